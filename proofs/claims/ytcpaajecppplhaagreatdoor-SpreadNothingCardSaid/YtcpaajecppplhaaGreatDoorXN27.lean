/- What the law leans on, part 28: declarations of several texts of ours, in their order. -/
import Derived.Test.YtcpaajecppplhaaGreatDoorXN18
import Derived.Test.YtcpaajecppplhaaGreatDoorXN19
import Derived.Test.YtcpaajecppplhaaGreatDoorXN20
import Derived.Test.YtcpaajecppplhaaGreatDoorXN26
import Derived.RangeFuncNested
import Derived.RangeFuncBound
import Derived.RangeFuncCalls
import Derived.RangeFuncLeaves
import Derived.Shelf.Abstract
import Derived.Shelf.RegionOpen
import Derived.OwnWalkIn
import Derived.TacticsInMore
import Derived.LoopNIn
import Derived.LoopIn
import Derived.Test.YtcpaajecppplhaaGreatDoorProg
import Derived.Below
import Derived.Deep.Draws
import Derived.Deep.AppendLies
import Derived.Maps.AppendAt
import Derived.OwnWalk
import Derived.Laws.BytesArg
import Derived.Laws.MakeOwn
import Derived.Laws.OwnMore
import Derived.Deep.OwnRows
import Derived.Tactics
import Derived.Lib.ConvBytes
import Derived.Laws.Slices
import Derived.WalkKit
import Derived.KernelRfl
import Derived.RowKit3
import Derived.Deep.LoopGhost
import Derived.Deep.QuietTactic
import Derived.BigQuiet
import Derived.WideLaws
import Derived.Deep.DeepCutAuto
import Derived.Deep.CutBlock
import Derived.Deep.RegionHeld3
import Derived.Laws.Rows
import Derived.Lib.AppendStr
import Derived.ArgAppend
import Derived.Laws.IdiomCopy
import Derived.OrdersHeld
import Derived.Laws.BitsLemmas
import Derived.RowKit
import Derived.Test.YtcpaajecppplhaaGreatDoorXN0
import Derived.Test.YtcpaajecppplhaaGreatDoorXN1
import Derived.Test.YtcpaajecppplhaaGreatDoorXN25
import Derived.Test.YtcpaajecppplhaaGreatDoorXN2
import Derived.Test.YtcpaajecppplhaaGreatDoorXN3
import Derived.Test.YtcpaajecppplhaaGreatDoorXN17
section
/- num.quotient: a size divided by another one, and what is left, at all sizes of 50000 parts at most. -/
namespace Go.Proofs.YtcpaajecppplhaaGreatDoor.Hd
open Go.RowKit Go.Proofs.YtcpaajecppplhaaGreatDoorW.PrintWords Go.Proofs.YtcpaajecppplhaaGreatDoorW.PrintLast Go.Proofs.YtcpaajecppplhaaGreatDoorW.PrintMore Go.Proofs.YtcpaajecppplhaaGreatDoor.B Go.Lib Go.Shelf Go.Proofs.YtcpaajecppplhaaGreatDoor.Nm
attribute [local go_sem] Oper.semAt_some
set_option linter.unusedVariables false
set_option linter.unusedSimpArgs false
/-! ### what a round does, plainly -/
theorem quo_step (X Y j : Nat) (hY : 0 < Y) :
    (X / 1000000000 ^ (j + 1) % Y * 1000000000 + X / 1000000000 ^ j % 1000000000) < Y * 1000000000 ∧
    X / 1000000000 ^ j / Y = X / 1000000000 ^ (j + 1) / Y * 1000000000 + (X / 1000000000 ^ (j + 1) % Y * 1000000000 + X / 1000000000 ^ j % 1000000000) / Y ∧
    X / 1000000000 ^ j % Y = (X / 1000000000 ^ (j + 1) % Y * 1000000000 + X / 1000000000 ^ j % 1000000000) % Y := by
  have h1 : X / 1000000000 ^ (j + 1) = X / 1000000000 ^ j / 1000000000 := by rw [Nat.pow_succ, Nat.div_div_eq_div_mul]
  rw [h1]
  generalize X / 1000000000 ^ j = z
  have h2 : z = z / 1000000000 * 1000000000 + z % 1000000000 := by omega
  have h3 : z % 1000000000 < 1000000000 := Nat.mod_lt _ (by decide)
  generalize z / 1000000000 = u at *
  generalize z % 1000000000 = p at *
  subst h2
  have h4 := Nat.div_add_mod u Y
  have h5 := Nat.mod_lt u hY
  generalize u / Y = d at *
  generalize u % Y = r at *
  subst h4
  have h6 : (Y * d + r) * 1000000000 + p = (r * 1000000000 + p) + Y * (d * 1000000000) := by rw [Nat.add_mul, Nat.mul_assoc]; omega
  refine ⟨?_, ?_, ?_⟩
  · have : (r + 1) * 1000000000 ≤ Y * 1000000000 := Nat.mul_le_mul_right _ h5
    omega
  · rw [h6, Nat.add_mul_div_left _ _ hY]; omega
  · rw [h6, Nat.add_mul_mod_self_left]
theorem search_end (Y z lo hi : Nat) (h1 : Y * lo ≤ z) (h2 : z < Y * hi) (h3 : lo < hi) (h4 : ¬ 1 < hi - lo) : z / Y = lo ∧ z - Y * lo = z % Y := by
  have e : hi = lo + 1 := by omega
  subst e
  rw [Nat.mul_add, Nat.mul_one] at h2
  obtain ⟨r, rfl⟩ : ∃ r, z = r + Y * lo := ⟨z - Y * lo, by omega⟩
  have hr : r < Y := by omega
  rw [Nat.add_mul_div_left _ _ (by omega), Nat.div_eq_of_lt hr, Nat.add_mul_mod_self_left, Nat.mod_eq_of_lt hr]
  omega
section
variable {P : Program} {ops : Array Oper}
/-- a region that draws its order, outside of all rounds: as region_round -/
theorem region_top {id m : Nat} {Q : Exit → Act → World → Prop} {S : World → Prop} {ds : List Nat} {a : Act} {w : World} (L : Array Bool) (hm : P.follows .mixedOrders = true) (hn : ops.size = m) (hl : Array.replicate m false = L) (hS : S w.drew)
    (h : S w.drew → wpAnyLast P .any ops (EndsIn (Q .normal)) S ds m L a w.drew) : (Code.region id ops true).wp P Q a w :=
  wp_mono (start_ L hm hn hl hS h) (fun e a w he => by obtain ⟨rfl, h⟩ := he; exact h)
end
/-! ### what a step of the walk leaves as it is -/
def St (s bs : Nat) (W W' : World) : Prop := (KeepsOthers W W' ∧ Below s W W') ∧ W'.heap[bs]? = W.heap[bs]?
theorem St.t {s bs : Nat} {A B C : World} (h : St s bs A B) (k : St s bs B C) : St s bs A C := ⟨⟨h.1.1.trans k.1.1, h.1.2.trans k.1.2⟩, k.2.trans h.2⟩
theorem St.below {s bs : Nat} {W W' : World} (h : Below W.heap.size W W') (hs : s ≤ W.heap.size) (hb : bs < W.heap.size) : St s bs W W' :=
  ⟨⟨⟨h.size, fun k o hk _ => (h.block k (Array.getElem?_eq_some_iff.1 hk).1).trans hk⟩, h.mono hs⟩, h.block bs hb⟩
theorem St.grown {s bs : Nat} {W W' : World} {row : Option Nat} (h : W.grownBy W' row) (hs : s ≤ W.heap.size) (hb : bs < W.heap.size) (hr : ∀ k, row = some k → s ≤ k ∧ k ≠ bs ∧ ∃ o : Obj, W.heap[k]? = some o ∧ o.isCells = true) : St s bs W W' :=
  ⟨⟨KeepsOthers.of_grownBy h (fun j o e ho => by
      obtain ⟨_, _, o', ho', hc⟩ := hr j e
      rw [ho] at ho'
      cases ho'
      exact hc), (Below.refl s W).grown h hs (fun k e => (hr k e).1)⟩, h.block bs hb (fun e => (hr bs e.symm).2.1 rfl)⟩
theorem St.set {s bs : Nat} (W : World) (p : Addr) (v : Value) (hs : s ≤ p.block) (hb : p.block ≠ bs) : St s bs W (W.setCell p v) :=
  ⟨⟨KeepsOthers.setCell W p v, (Below.refl s W).setCell hs v⟩, Below.heap_setCell W p v bs (fun e => hb e.symm)⟩
theorem R_hold {W W' : World} {B : Nat} {ok : Nat → Prop} {v : Value} {xs : List Int} (h : Kd.R (Kd.int .u64) 188 W B ok v xs) {row : Option Nat} (hg : W.grownBy W' row) (hr : ∀ r, row = some r → ∃ o : Obj, W.heap[r]? = some o ∧ o.isCells = false) : Kd.R (Kd.int .u64) 188 W' B ok v xs :=
  Kd.R_mono (Kd.R_grown (Kd.R_bound h) hg (fun k hk e => by
    obtain ⟨_, _, _, q, _, cells, hc⟩ := hk
    obtain ⟨o, ho, h1⟩ := hr k e.symm
    rw [hc] at ho
    cases ho
    cases h1)) (fun k hk => hk.1)
theorem R_box {W : World} {B : Nat} {ok : Nat → Prop} {v : Value} {xs : List Int} (h : Kd.R (Kd.int .u64) 188 W B ok v xs) {g t : Nat} {c : Array Value} (hb : W.heap[g]? = some (.cells c t (0, 0))) (ht : t ≠ 188) (j : Nat) (u : Value) : Kd.R (Kd.int .u64) 188 (W.setCell ⟨g, j, none⟩ u) B ok v xs :=
  Kd.R_mono (Kd.R_far (p := ⟨g, j, none⟩) (Kd.R_bound h) (fun k hk e => by
    obtain ⟨_, _, _, q, hq, cells, hc⟩ := hk
    have : q = 188 := by simpa [Kd.int, Kd.scalar] using hq
    subst this
    rw [show k = g from e, hb] at hc
    cases hc
    exact ht rfl) u) (fun k hk => hk.1)
theorem R_cells {W : World} {B : Nat} {ok : Nat → Prop} {v : Value} {xs : List Int} (h : Kd.R (Kd.int .u64) 188 W B ok v xs) {k : Nat} (hk : v.ownBlock = some k) : ok k ∧ B ≤ k ∧ ∃ cells, W.heap[k]? = some (.cells cells 188 (0, 0)) := by
  obtain ⟨h1, h2, h3, q, hq, cells, hc⟩ := (Kd.R_bound h).1 k hk
  have : q = 188 := by simpa [Kd.int, Kd.scalar] using hq
  subst this
  exact ⟨h1, h2, cells, hc⟩
/-- what is left, and the quotient's parts, behind one part more -/
def qStep (X Y : Nat) (s : Nat × List Nat) (j : Nat) : Nat × List Nat := ((s.1 * 1000000000 + X / 1000000000 ^ j % 1000000000) % Y, s.2.set j ((s.1 * 1000000000 + X / 1000000000 ^ j % 1000000000) / Y))
def qAt (X Y n : Nat) (pre : List (Fin n)) : Nat × List Nat := pre.foldl (fun s x => qStep X Y s x.1) (0, List.replicate n 0)
theorem qAt_nil (X Y n : Nat) : qAt X Y n [] = (0, List.replicate n 0) := rfl
theorem qAt_snoc (X Y n : Nat) (pre : List (Fin n)) (x : Fin n) : qAt X Y n (pre ++ [x]) = qStep X Y (qAt X Y n pre) x.1 := by simp [qAt, List.foldl_append]
theorem z_lt (X Y L j : Nat) (h : L < Y) : L * 1000000000 + X / 1000000000 ^ j % 1000000000 < Y * 1000000000 := by
  have h3 : X / 1000000000 ^ j % 1000000000 < 1000000000 := Nat.mod_lt _ (by decide)
  have : (L + 1) * 1000000000 ≤ Y * 1000000000 := Nat.mul_le_mul_right _ h
  omega
theorem qAt_inv (X Y n : Nat) (hY : 0 < Y) (pre : List (Fin n)) : (qAt X Y n pre).1 < Y ∧ (qAt X Y n pre).2.length = n ∧ Pt (qAt X Y n pre).2 := by
  have key : ∀ (pre : List (Fin n)) (s : Nat × List Nat), s.1 < Y ∧ s.2.length = n ∧ Pt s.2 → (pre.foldl (fun s x => qStep X Y s x.1) s).1 < Y ∧ (pre.foldl (fun s x => qStep X Y s x.1) s).2.length = n ∧ Pt (pre.foldl (fun s x => qStep X Y s x.1) s).2 := by
    intro pre
    induction pre with
    | nil => intro s h; exact h
    | cons x r ih =>
      intro s h
      rw [List.foldl_cons]
      refine ih _ ⟨Nat.mod_lt _ hY, by simp [qStep, h.2.1], pt_set h.2.2 _ _ ?_⟩
      have := z_lt X Y s.1 x.1 h.1
      exact (Nat.div_lt_iff_lt_mul hY).2 (by rw [Nat.mul_comm 1000000000 Y]; exact this)
  exact key pre _ ⟨hY, by simp, pt_zeros _⟩
theorem qAt_bk (X Y n : Nat) (hY : 0 < Y) (hX : X < 1000000000 ^ n) : ∀ k, k ≤ n → (qAt X Y n (bk n k)).1 = X / 1000000000 ^ (n - k) % Y ∧ mv (qAt X Y n (bk n k)).2 = X / 1000000000 ^ (n - k) / Y * 1000000000 ^ (n - k)
  | 0, _ => by rw [bk_zero, qAt_nil, Nat.sub_zero, Nat.div_eq_of_lt hX, Nat.zero_mod, mv_zeros, Nat.zero_div, Nat.zero_mul]; exact ⟨rfl, rfl⟩
  | k + 1, h => by
    obtain ⟨h1, h2⟩ := qAt_bk X Y n hY hX k (by omega)
    have hi := qAt_inv X Y n hY (bk n k)
    obtain ⟨j, hj⟩ : ∃ j, n - (k + 1) = j := ⟨_, rfl⟩
    have hj1 : n - k = j + 1 := by omega
    have hj2 : n - 1 - k = j := by omega
    obtain ⟨q1, q2, q3⟩ := quo_step X Y j hY
    rw [bk_succ n k (by omega), qAt_snoc, hj]
    rw [hj1] at h1 h2
    obtain ⟨s, hs⟩ : ∃ s, s = qAt X Y n (bk n k) := ⟨_, rfl⟩
    rw [← hs] at h1 h2 hi ⊢
    show (s.1 * 1000000000 + X / 1000000000 ^ (n - 1 - k) % 1000000000) % Y = _ ∧ mv (s.2.set (n - 1 - k) ((s.1 * 1000000000 + X / 1000000000 ^ (n - 1 - k) % 1000000000) / Y)) = _
    rw [hj2, h1]
    refine ⟨q3.symm, ?_⟩
    have h3 := mv_set s.2 j ((X / 1000000000 ^ (j + 1) % Y * 1000000000 + X / 1000000000 ^ j % 1000000000) / Y) (by omega)
    have h4 : s.2.getD j 0 = 0 := by
      rw [Go.Proofs.YtcpaajecppplhaaGreatDoor.Nm.part s.2 hi.2.2, h2, Nat.pow_succ, Nat.mul_comm (1000000000 ^ j) 1000000000, ← Nat.mul_assoc, Nat.mul_div_cancel _ (Nat.pow_pos (by decide)), Nat.mul_mod_left]
    rw [h4, Nat.zero_mul, Nat.add_zero, h2] at h3
    rw [h3, q2, Nat.add_mul, Nat.pow_succ, Nat.mul_comm (1000000000 ^ j) 1000000000, Nat.mul_assoc]
/-- where the walk is -/
def QSt (s n : Nat) (A0 A1 : Option Addr) (c0 c1 len1 : Nat) (w : World) (st : Nat × List Nat) (W : World) : Prop :=
  (Boxed W s 159 (.slice A1 len1 c1) ∧ Boxed W (s + 1 + 1) 159 (.slice (some ⟨s + 1, 0, none⟩) n n) ∧ Boxed W (s + 1 + 1 + 1 + 1) 159 (.slice A0 n c0)) ∧ Below s w W ∧
  (∃ lv, Boxed W (s + 1 + 1 + 1) 159 lv ∧ Kd.R (Kd.int .u64) 188 W s (fun b => b ≠ s + 1) lv (il (mg st.1))) ∧ Kd.R (Kd.int .u64) 188 W s (fun b => b = s + 1) (.slice (some ⟨s + 1, 0, none⟩) n n) (il st.2)
set_option maxHeartbeats 8000000 in
set_option maxRecDepth 100000 in
theorem quotient_walk (X Y : Nat) (hY : 0 < Y) (A0 A1 : Option Addr) (c0 c1 : Nat) (l0 l1 : List Int) (w : World) (h0 : l0 = il (mg X)) (h1 : l1 = il (mg Y)) (hr0 : Kd.C (Kd.int .u64) w A0 l0.length l0) (hr1 : Kd.C (Kd.int .u64) w A1 l1.length l1) (hc1 : l1.length ≤ c1) (hl : l0.length ≤ 50000) (hl1 : l1.length ≤ 50000) :
    Calls Tryz.prog 199 #[.slice A0 l0.length c0, .slice A1 l1.length c1] w fun e w' => ∃ v1 v2, e = .returned (.tuple #[v1, v2]) ∧ Kd.R (Kd.int .u64) 188 w' w.heap.size (fun b => b = w.heap.size + 1) v1 (il (mg (X / Y))) ∧ Kd.R (Kd.int .u64) 188 w' w.heap.size (fun b => b ≠ w.heap.size + 1) v2 (il (mg (X % Y))) ∧ Below w.heap.size w w' := by
  have HR0 := Aside0.mk hr0
  have HR1 := Aside0.mk hr1
  have HC1 := Aside0.mk hc1
  have E0 := Aside0.mk h0
  have E1 := Aside0.mk h1
  have HY := Aside0.mk hY
  have HL1 := Aside0.mk hl1
  have hn : (mg X).length = l0.length := by rw [h0, il_len]
  have hn1 : (mg Y).length = l1.length := by rw [h1, il_len]
  have HN := Aside0.mk hn
  have HN1 := Aside0.mk hn1
  clear hr0 hr1 hc1 h0 h1 hY hl1 hn hn1
  have hb0 : (0 : Int) ≤ (l0.length : Int) := by omega
  have hb1 : (l0.length : Int) ≤ 35184372088832 := by omega
  refine (callsIn_wide (n := 6)).1 ?_
  have hro : Fence.wide.round = none := rfl
  refine callsIn_of_wp_marks Tryz.func199 rfl trivial ?_ hro
  simp only [Tryz.ntmps199, List.size_toArray, List.length_cons, List.length_nil, Nat.reduceAdd, Nat.reduceSub, Array.replicate_succ, Array.replicate_zero, List.push_toArray, List.append_toArray, List.nil_append, List.cons_append]
  have hmk : ∀ W : World, (Instr.makeSlice 159 (.int .i64 (l0.length : Int)) (.int .i64 (l0.length : Int))).run Tryz.prog W = .ok (.slice (some ⟨W.heap.size, 0, none⟩) l0.length l0.length) (W.alloc (.cells (madeCells #[.int .u64 0] l0.length) 188)) := fun W => by
    obtain ⟨i0, hi, hz0, hz1, hz2⟩ := info_parts info188
    have hr := run_make (P := Tryz.prog) W 159 188 i0 _ Tryz.underlying159 hi hz0 .i64 .i64 (l0.length : Int) (l0.length : Int) (by omega) (by omega) (by rw [hz2]; omega) (by omega)
    simpa [hz1, Value.cells] using hr
  gi_wp2_with (first
    | (refine ⟨trivial, ?_⟩; gi_at_call 220; refine (back_in Fence.wide _ trivial rfl _ _ _ _).mono ?_; rintro e w' ⟨rfl, rfl⟩))
  clear hmk hb0 hb1
  obtain ⟨W0, hW0⟩ : ∃ W0, W0 = (((((w.alloc (.cells #[.slice A1 l1.length c1] 159)).alloc (.cells (madeCells #[.int .u64 0] l0.length) 188)).alloc (.cells #[.slice (some ⟨w.heap.size + 1, 0, none⟩) l0.length l0.length] 159)).alloc (.cells #[.slice none 0 0] 159)).alloc (.cells #[.slice A0 l0.length c0] 159) : World) := ⟨_, rfl⟩
  have hsz : W0.heap.size = w.heap.size + 5 := by rw [hW0]; simp
  have hB0 : Below w.heap.size w W0 := by
    rw [hW0]
    exact (((((Below.refl _ w).alloc (Nat.le_refl _) _).alloc (by simp) _).alloc (by simp; omega) _).alloc (by simp; omega) _).alloc (by simp; omega) _
  have b0 : Boxed W0 w.heap.size 159 (.slice A1 l1.length c1) := by
    show W0.heap[_]? = _
    rw [hW0, heap_alloc_old _ _ (by simp <;> omega), heap_alloc_old _ _ (by simp <;> omega), heap_alloc_old _ _ (by simp <;> omega), heap_alloc_old _ _ (by simp), heap_alloc_new]
  have bR : W0.heap[w.heap.size + 1]? = some (.cells (madeCells #[.int .u64 0] l0.length) 188 (0, 0)) := by
    rw [hW0, heap_alloc_old _ _ (by simp <;> omega), heap_alloc_old _ _ (by simp <;> omega), heap_alloc_old _ _ (by simp)]
    have := heap_alloc_new (w.alloc (.cells #[.slice A1 l1.length c1] 159)) (.cells (madeCells #[.int .u64 0] l0.length) 188)
    rwa [World.size_alloc] at this
  have b2 : Boxed W0 (w.heap.size + 1 + 1) 159 (.slice (some ⟨w.heap.size + 1, 0, none⟩) l0.length l0.length) := by
    show W0.heap[_]? = _
    rw [hW0, heap_alloc_old _ _ (by simp <;> omega), heap_alloc_old _ _ (by simp)]
    have := heap_alloc_new ((w.alloc (.cells #[.slice A1 l1.length c1] 159)).alloc (.cells (madeCells #[.int .u64 0] l0.length) 188)) (.cells #[.slice (some ⟨w.heap.size + 1, 0, none⟩) l0.length l0.length] 159)
    rwa [World.size_alloc, World.size_alloc] at this
  have b3 : Boxed W0 (w.heap.size + 1 + 1 + 1) 159 (.slice none 0 0) := by
    show W0.heap[_]? = _
    rw [hW0, heap_alloc_old _ _ (by simp)]
    have := heap_alloc_new (((w.alloc (.cells #[.slice A1 l1.length c1] 159)).alloc (.cells (madeCells #[.int .u64 0] l0.length) 188)).alloc (.cells #[.slice (some ⟨w.heap.size + 1, 0, none⟩) l0.length l0.length] 159)) (.cells #[.slice none 0 0] 159)
    rwa [World.size_alloc, World.size_alloc, World.size_alloc] at this
  have b4 : Boxed W0 (w.heap.size + 1 + 1 + 1 + 1) 159 (.slice A0 l0.length c0) := by
    show W0.heap[_]? = _
    rw [hW0]
    have := heap_alloc_new ((((w.alloc (.cells #[.slice A1 l1.length c1] 159)).alloc (.cells (madeCells #[.int .u64 0] l0.length) 188)).alloc (.cells #[.slice (some ⟨w.heap.size + 1, 0, none⟩) l0.length l0.length] 159)).alloc (.cells #[.slice none 0 0] 159)) (.cells #[.slice A0 l0.length c0] 159)
    rwa [World.size_alloc, World.size_alloc, World.size_alloc, World.size_alloc] at this
  rw [← hW0]
  clear hW0
  have start : QSt w.heap.size l0.length A0 A1 c0 c1 l1.length w (qAt X Y l0.length []) W0 := by
    refine ⟨⟨b0, b2, b4⟩, hB0, ⟨_, b3, ?_⟩, ?_⟩
    · show Kd.R (Kd.int .u64) 188 _ _ _ _ (il (mg 0))
      rw [mg_zero]
      exact Kd.R_nil _ _ _ _ _
    · have e : (il (List.replicate l0.length 0)).length = l0.length := by simp [il]
      have h := own_of_cells (ys := il (List.replicate l0.length 0)) (B := w.heap.size) (c := l0.length) (by omega) bR (by omega) (by unfold maxLen; omega) (by rw [size_madeCells]) (fun j hj => by
        rw [e] at hj
        have e2 : (madeCells #[Value.int .u64 0] l0.length)[j]? = (madeCells #[Value.int .u64 0] l0.length).toList[j]? := by simp
        rw [e2, toList_madeCells_one, List.getElem?_replicate, if_pos hj]
        simp [nums, il, hj])
      rw [e] at h
      exact R_of_own (xs := il (List.replicate l0.length 0)) (by rw [e]; exact h) (fun k hk => by simpa [Value.ownBlock] using hk.symm)
  clear b0 b2 b3 bR
  refine wpIn_rangeFunc_ownG hro (by omega) (gf := 244) (lb := #[.pointer (some ⟨w.heap.size + 1 + 1 + 1 + 1, 0, none⟩)]) rfl trivial (enters_of Tryz.func244 (by kernel_rfl) rfl)
    (back_stops Fence.wide 5 trivial hro (by omega) (w.heap.size + 1 + 1 + 1 + 1) w.heap.size A0 c0 l0 w W0 rfl HR0.out hB0 b4) Kb.t (Kb.b (by omega) (by omega)) (Below.refl _ _) (fun _ => rfl)
    (fun pre W => QSt w.heap.size l0.length A0 A1 c0 c1 l1.length w (qAt X Y l0.length pre) W)
    (fun _ _ _ => False)
    ?hI (fun _ _ _ _ _ hs _ _ => hs) start
    (fun x => { tmps := #[.slice A0 l0.length c0, .slice A1 l1.length c1, undef, .pointer (some ⟨w.heap.size, 0, none⟩), .slice none 0 0, .slice none 0 0, .pointer (some ⟨w.heap.size + 1 + 1, 0, none⟩), .pointer (some ⟨w.heap.size + 1 + 1 + 1, 0, none⟩), (.int .i64 ((x.1 : Nat) : Int)), (.int .u64 (l0.getD x.1 0)), undef, undef, undef, .slice A0 l0.length c0, .int .i64 (l0.length : Int), .slice (some ⟨w.heap.size + 1, 0, none⟩) l0.length l0.length, .slice A0 l0.length c0, .func (.func 244) #[] #[.pointer (some ⟨w.heap.size + 1 + 1 + 1 + 1, 0, none⟩)], (.int .i64 ((x.1 : Nat) : Int)), (.int .u64 (l0.getD x.1 0)), undef, undef, undef, undef, undef, undef, undef, undef, undef, undef, undef, undef, undef, undef, undef, undef, undef, undef, undef, undef, undef, undef, undef, undef, undef, undef, undef, undef, undef, undef, undef, undef, undef], defers := [] }) ?assign ?body ?done ?stop
  case hI =>
    rintro s W W' row ⟨⟨h1, h2, h7⟩, h3, ⟨lv, h4, h5⟩, h6⟩ hg hr
    exact ⟨⟨boxed_own _ _ (fun _ : Unit => _) () W W' row h1 hg (fun r e => (hr r e).2), boxed_own _ _ (fun _ : Unit => _) () W W' row h2 hg (fun r e => (hr r e).2), boxed_own _ _ (fun _ : Unit => _) () W W' row h7 hg (fun r e => (hr r e).2)⟩, ownFrom_below (Nat.le_refl _) (by omega) () W W' row h3 hg hr, ⟨lv, boxed_own _ _ (fun _ : Unit => _) () W W' row h4 hg (fun r e => (hr r e).2), R_hold h5 hg (fun r e => (hr r e).2)⟩, R_hold h6 hg (fun r e => (hr r e).2)⟩
  case assign =>
    intro l x W K hK
    generalize l0.getD x.1 0 = v at *
    generalize x.1 = j at *
    gi_wp2
    exact hK
  case body =>
    rintro l pre x W ⟨⟨h1, h2, h7⟩, h3, ⟨lv, h4, h5⟩, h6⟩ _
    obtain ⟨hi1, hi2, hi3⟩ := qAt_inv X Y l0.length HY.out pre
    obtain ⟨z, hz⟩ : ∃ z, z = (qAt X Y l0.length pre).1 * 1000000000 + X / 1000000000 ^ x.1 % 1000000000 := ⟨_, rfl⟩
    have hzl : z < Y * 1000000000 := by rw [hz]; exact z_lt X Y _ x.1 hi1
    have hsn : qAt X Y l0.length (pre ++ [x]) = (z % Y, (qAt X Y l0.length pre).2.set x.1 (z / Y)) := by rw [qAt_snoc, hz]; rfl
    have HSN := Aside0.mk hsn
    clear hsn
    obtain ⟨j, hj⟩ : ∃ j : Nat, j = x.1 := ⟨_, rfl⟩
    have hjn : j < l0.length := by rw [hj]; exact x.2
    have hpx : l0.getD x.1 0 = ((X / 1000000000 ^ x.1 % 1000000000 : Nat) : Int) := (congrArg (fun m : List Int => m.getD x.1 0) E0.out).trans (by rw [il_getD, Go.Proofs.YtcpaajecppplhaaGreatDoor.Nm.part _ (pt_mg _), mv_mg])
    rw [← hj] at hpx hz ⊢
    have HJ := Aside0.mk hj
    clear hj
    obtain ⟨p, hp⟩ : ∃ p, p = X / 1000000000 ^ j % 1000000000 := ⟨_, rfl⟩
    have hpB : p < 1000000000 := by rw [hp]; exact Nat.mod_lt _ (by decide)
    rw [← hp] at hpx hz
    rw [hpx]
    clear hpx hp
    obtain ⟨LQ, hLQ⟩ : ∃ s, s = qAt X Y l0.length pre := ⟨_, rfl⟩
    rw [← hLQ] at hi1 hi2 hi3 hz h5 h6
    rw [← hLQ] at HSN
    clear hLQ
    obtain ⟨Lv, q⟩ := LQ
    simp only at hi1 hi2 hi3 hz h5 h6 HSN
    have hs1 : w.heap.size + 1 < W.heap.size := by have := h4.lt; omega
    have hs4 : w.heap.size + 1 + 1 + 1 + 1 < W.heap.size := h7.lt
    have hlen : (il (mg Lv)).length ≤ 50000 := by
      rw [il_len]
      have h1 := HN1.out
      have h2 := HL1.out
      rcases Nat.lt_or_ge (mg Y).length (mg Lv).length with h | h
      · exact absurd (mg_len_lt h) (by omega)
      · omega
    have hlvb : ∀ b, lv.ownBlock = some b → b ≠ w.heap.size + 1 ∧ w.heap.size ≤ b ∧ (∃ cells, W.heap[b]? = some (.cells cells 188 (0, 0))) := fun b hb => R_cells h5 hb
    have hne : lv.ownBlock ≠ some W.heap.size := fun e => by
      obtain ⟨_, _, cells, hc⟩ := hlvb _ e
      have := (Array.getElem?_eq_some_iff.1 hc).1
      omega
    have hsa : (W.alloc (.cells #[.int .u64 (p : Int)] 188)).heap.size = W.heap.size + 1 := by simp
    have HIN := Aside0.mk (insertR (p : Int) (il (mg Lv)) lv W.heap.size w.heap.size (fun b => b ≠ w.heap.size + 1) (W.alloc (.cells #[.int .u64 (p : Int)] 188)) (Kd.R_alloc h5 _) (fun k hk => by omega) (heap_alloc_new W _) hne (by omega) (by omega))
    have hmz : mv (p :: mg Lv) = z := by rw [hz]; simp only [mv, mv_mg]; omega
    obtain ⟨k1, hk1⟩ := (trimM_ev (p :: mg Lv) (by have : (mg Lv).length ≤ 50000 := by rw [← il_len]; exact hlen
                                                   simp only [List.length_cons]; omega) (fun y hy => by
      rcases List.mem_cons.1 hy with rfl | hy
      · exact hpB
      · exact pt_mg _ y hy)).rounds
    rw [hmz] at hk1
    have HTR := Aside0.mk hk1
    clear hk1 hmz
    obtain ⟨r, hr⟩ : ∃ r, r = il (mg z) := ⟨_, rfl⟩
    rw [← hr] at HTR
    have HRZ := Aside0.mk hr
    clear hr
    have H2 := Aside0.mk h2
    have H7 := Aside0.mk h7
    have H6 := Aside0.mk h6
    have H3 := Aside0.mk h3
    have HLVB := Aside0.mk hlvb
    have H1 := Aside0.mk h1
    have H4 := Aside0.mk h4
    have HI1 := Aside0.mk hi1
    have HI2 := Aside0.mk hi2
    have HI3 := Aside0.mk hi3
    have HZ := Aside0.mk hz
    have HZL := Aside0.mk hzl
    have HNE := Aside0.mk hne
    have HSA := Aside0.mk hsa
    have HLEN := Aside0.mk hlen
    have HPB := Aside0.mk hpB
    have g4 := h4.cell
    clear h1 h2 h3 h4 h5 h6 h7 hi1 hi2 hi3 hz hzl hlvb hne hsa hlen hpB
    gi_wp2_with (first
      | (refine ⟨trivial, ?_⟩; gi_at_call 225; refine (CallsIn.inRound l (callsIn_wide.2 HIN.out)).mono ?_; rintro e W2 ⟨v2, rfl, hR2, hg2⟩; obtain ⟨A2, c2, rfl⟩ := Kd.R_slice hR2; have HR2 := Aside0.mk hR2; have HG2 := Aside0.mk hg2; clear hR2 hg2; have k4 : Boxed W2 (w.heap.size + 1 + 1 + 1) 159 lv := (HG2.out.block _ (by rw [HSA.out]; omega) (fun e => by obtain ⟨_, _, cells, hc⟩ := HLVB.out _ e.symm; rw [H4.out] at hc; cases hc)).trans ((Boxed.alloc H4.out _ : _)); have g42 := k4.cell; have f42 := k4.frozen)
      | (refine ⟨trivial, ?_⟩; gi_at_call 198; refine (CallsIn.inRound l (callsIn_wide.2 (trimR k1 _ _ _ _ _ r _ HR2.out HTR.out))).mono ?_; rintro e W3 ⟨rfl, hR3, ⟨nd, rfl⟩⟩; have HR3 := Aside0.mk hR3; clear hR3))
    obtain ⟨W4, hW4⟩ : ∃ W4, W4 = ((W2.drewN nd).setCell ⟨w.heap.size + 1 + 1 + 1, 0, none⟩ (.slice A2 r.length c2) : World) := ⟨_, rfl⟩
    have hsz2 : W.heap.size + 1 ≤ W2.heap.size := by have := HG2.out.size; rw [HSA.out] at this; exact this
    have old2 : ∀ (b t : Nat) (cs : Array Value), t ≠ 188 → W.heap[b]? = some (.cells cs t (0, 0)) → W2.heap[b]? = some (.cells cs t (0, 0)) := fun b t cs ht hb =>
      (HG2.out.block b (by rw [HSA.out]; have := (Array.getElem?_eq_some_iff.1 hb).1; omega) (fun e => by obtain ⟨_, _, cells, hc⟩ := HLVB.out _ e.symm; rw [hb] at hc; cases hc; exact ht rfl)).trans (heap_alloc_old W _ (Array.getElem?_eq_some_iff.1 hb).1 |>.trans hb)
    have n4 : W4.heap.size = W2.heap.size := by rw [hW4]; simp [World.setCell]
    have old4 : ∀ (b t : Nat) (cs : Array Value), t ≠ 188 → b ≠ w.heap.size + 1 + 1 + 1 → W.heap[b]? = some (.cells cs t (0, 0)) → W4.heap[b]? = some (.cells cs t (0, 0)) := fun b t cs ht hbn hb => by
      rw [hW4]
      exact (Below.heap_setCell _ _ _ _ hbn).trans (old2 b t cs ht hb)
    have m1 : Boxed W4 w.heap.size 159 (.slice A1 l1.length c1) := old4 _ _ _ (by decide) (by omega) H1.out
    have m2 : Boxed W4 (w.heap.size + 1 + 1) 159 (.slice (some ⟨w.heap.size + 1, 0, none⟩) l0.length l0.length) := old4 _ _ _ (by decide) (by omega) H2.out
    have m7 : Boxed W4 (w.heap.size + 1 + 1 + 1 + 1) 159 (.slice A0 l0.length c0) := old4 _ _ _ (by decide) (by omega) H7.out
    have m3 : Boxed W4 (w.heap.size + 1 + 1 + 1) 159 (.slice A2 r.length c2) := by rw [hW4]; exact (show Boxed (W2.drewN nd) _ _ lv from k4).set _
    have mL : Kd.R (Kd.int .u64) 188 W4 w.heap.size (fun b => b ≠ w.heap.size + 1) (.slice A2 r.length c2) r := by
      rw [hW4]
      exact R_box (Kd.R_drewN HR3.out nd) (show (W2.drewN nd).heap[w.heap.size + 1 + 1 + 1]? = some (.cells #[lv] 159 (0, 0)) from k4) (by decide) 0 _
    have mQ : Kd.R (Kd.int .u64) 188 W4 w.heap.size (fun b => b = w.heap.size + 1) (.slice (some ⟨w.heap.size + 1, 0, none⟩) l0.length l0.length) (il q) := by
      rw [hW4]
      exact Kd.R_far (p := ⟨w.heap.size + 1 + 1 + 1, 0, none⟩) (Kd.R_drewN (Kd.R_grown (Kd.R_alloc H6.out _) HG2.out (fun k hk e => by subst hk; exact (HLVB.out _ e.symm).1 rfl)) nd) (fun k hk => by subst hk; show _ ≠ _; simp only; omega) _
    have sA : St w.heap.size (w.heap.size + 1 + 1 + 1 + 1) W W4 := by
      have e1 : St w.heap.size (w.heap.size + 1 + 1 + 1 + 1) W (W.alloc (.cells #[.int .u64 (p : Int)] 188)) := St.below ((Below.refl _ W).alloc (Nat.le_refl _) _) (by omega) (by omega)
      have e2 : St w.heap.size (w.heap.size + 1 + 1 + 1 + 1) (W.alloc (.cells #[.int .u64 (p : Int)] 188)) W2 := St.grown HG2.out (by rw [HSA.out]; omega) (by rw [HSA.out]; omega) (fun k hk => by
        obtain ⟨h1, h2, cells, hc⟩ := HLVB.out _ hk
        have hc2 := (heap_alloc_old W (.cells #[.int .u64 (p : Int)] 188) (Array.getElem?_eq_some_iff.1 hc).1).trans hc
        exact ⟨h2, (fun e => by rw [e, H7.out] at hc; cases hc), _, hc2, rfl⟩)
      have e3 : St w.heap.size (w.heap.size + 1 + 1 + 1 + 1) W2 (W2.drewN nd) := St.below (pw_below_drewN (Below.refl _ _) nd) (by omega) (by omega)
      rw [hW4]
      exact ((e1.t e2).t e3).t (St.set _ _ _ (by show _ ≤ _; simp only; omega) (by show _ ≠ _; simp only; omega))
    rw [← hW4]
    have N4 := Aside0.mk n4
    have M1 := Aside0.mk m1
    have M2 := Aside0.mk m2
    have M7 := Aside0.mk m7
    have M3 := Aside0.mk m3
    have ML := Aside0.mk mL
    have MQ := Aside0.mk mQ
    have SA := Aside0.mk sA
    have HW4 : w.heap.size + 1 + 1 + 1 + 1 < W4.heap.size := by omega
    clear old2 old4 m1 m2 m3 m7 mL mQ sA hsz2 hW4 k4 g42 f42 HR2 HR3 HG2 n4 N4
    obtain ⟨hrc, hrC⟩ : r.length ≤ c2 ∧ ∀ V, Below W4.heap.size W4 V → Kd.C (Kd.int .u64) V A2 r.length r := by
      obtain ⟨A', c', e, h1, h2⟩ := Kd.R_reads ML.out
      injection e with e1 e2 e3
      subst e1 e3
      exact ⟨h1, fun V hV => Kd.C_below h2 hV⟩
    have HRC := Aside0.mk hrc
    have HRR := Aside0.mk hrC
    have hW04 : Below w.heap.size w W4 := H3.out.trans SA.out.1.2
    have HW04 := Aside0.mk hW04
    clear hrc hrC hW04
    gi_loopw [10, 11] (fun v10 v11 w' => ∃ lo hi : Nat, v10 = .int .u64 (lo : Int) ∧ v11 = .int .u64 (hi : Int) ∧ Aside0 (lo < hi ∧ hi ≤ 1000000000 ∧ Y * lo ≤ z ∧ z < Y * hi) ∧ Below W4.heap.size W4 w') (fun v10 v11 _ => (intOf v11).toNat - (intOf v10).toNat)
    case atStart => exact ⟨0, 1000000000, rfl, rfl, ⟨by decide, Nat.le_refl _, by rw [Nat.mul_zero]; exact Nat.zero_le _, HZL.out⟩, Below.refl _ _⟩
    case round =>
      obtain ⟨lo, hi, rfl, rfl, HA, hbw⟩ := hrel
      have HBW := Aside0.mk hbw
      clear hbw
      obtain ⟨ha1, ha2, ha3, ha4⟩ := HA.out
      have hsub : IntKind.u64.wrap ((hi : Int) - (lo : Int)) = (hi : Int) - (lo : Int) := by rw [IntKind.wrap_u64]; omega
      clear ha3 ha4
      by_cases hg : 1 < hi - lo
      · have hd1 : decide ((1 : Int) < (hi : Int) - (lo : Int)) = true := decide_eq_true (by omega)
        have hd2 : (1 : Int) < (hi : Int) - (lo : Int) := by omega
        obtain ⟨m, hm⟩ : ∃ m, m = (lo + hi) / 2 := ⟨_, rfl⟩
        have hadd : IntKind.u64.wrap ((lo : Int) + (hi : Int)) = (lo : Int) + (hi : Int) := by rw [IntKind.wrap_u64]; omega
        have htd : ((lo : Int) + (hi : Int)).tdiv 2 = (m : Int) := by rw [Int.tdiv_eq_ediv_of_nonneg (by omega)]; omega
        have hwm : IntKind.u64.wrap (m : Int) = (m : Int) := by rw [IntKind.wrap_u64]; omega
        have hm1 : lo < m ∧ m < hi := by omega
        have HM1 := Aside0.mk hm1
        obtain ⟨k2, hk2⟩ := (timesM_ev (mg Y) m (pt_mg _) (by omega) (by have := HN1.out; have := HL1.out; omega)).rounds
        rw [mv_mg, ← E1.out] at hk2
        obtain ⟨tr, htr⟩ : ∃ t, t = il (mg (Y * m)) := ⟨_, rfl⟩
        have hcm := compare_ev (Y * m) z
        rw [← htr, ← HRZ.out] at hcm
        rw [← htr] at hk2
        obtain ⟨rr, hrr⟩ : ∃ t, t = cmpN (Y * m) z := ⟨_, rfl⟩
        rw [← hrr] at hcm
        have HT := Aside0.mk hk2
        have HCM := Aside0.mk hcm
        have HRRR := Aside0.mk hrr
        have g1 : wr.cell? ⟨w.heap.size, 0, none⟩ = some (.slice A1 l1.length c1) := (HBW.out.cell M1.out.lt).trans M1.out.cell
        have g3 : wr.cell? ⟨w.heap.size + 1 + 1 + 1, 0, none⟩ = some (.slice A2 r.length c2) := (HBW.out.cell M3.out.lt).trans M3.out.cell
        have hB1 : Below w.heap.size w wr := HW04.out.trans (HBW.out.mono (by omega))
        have HB1 := Aside0.mk hB1
        clear hk2 htr hcm hrr hm hm1 hg ha1 ha2 hB1
        by_cases hle : Y * m ≤ z
        · have hr0 : rr ≤ 0 := by rw [HRRR.out]; unfold cmpN; split <;> (try split) <;> omega
          have hr1 : decide (rr ≤ 0) = true := decide_eq_true hr0
          have HLE := Aside0.mk hle
          clear hle
          gi_wp2
          refine Hd.region_round (m := 6) (S := fun w' => w'.cell? ⟨w.heap.size, 0, none⟩ = some (.slice A1 l1.length c1) ∧ w'.cell? ⟨w.heap.size + 1 + 1 + 1, 0, none⟩ = some (.slice A2 r.length c2)) (ds := []) #[false, false, false, false, false, false] (by kernel_rfl) rfl rfl (by kernel_rfl) ⟨g1, g3⟩ (fun hHeld => ?_)
          refine take_ (i := 0) (N := (some 33)) (v := ?_) (a' := ?_) #[true, false, false, false, false, false] rfl rfl (by kernel_rfl) (fun _ _ _ h => absurd h.1 (by intro e; cases e)) (Or.inl ⟨by rfl, ?_⟩) hHeld ?_ ?_
          rotate_left
          · intro w' hS
            obtain ⟨s0, s1⟩ := hS; go_simp; (try with_reducible rfl)
          rotate_left
          · simp only [Act.put, List.setIfInBounds_toArray, List.set_cons_zero, List.set_cons_succ]
            rfl
          refine pure_ (i := 1) (N := (some 34)) (v := ?_) (a' := ?_) #[true, true, false, false, false, false] rfl rfl (by kernel_rfl) (fun _ _ _ h => absurd h.1 (by intro e; cases e)) (Or.inl ⟨by rfl, ?_⟩) ?_ ?_
          rotate_left
          · intro w'
            go_simp
            with_reducible rfl
          rotate_left
          · simp only [Act.put, List.setIfInBounds_toArray, List.set_cons_zero, List.set_cons_succ]
            rfl
          refine take_ (i := 3) (N := (some 36)) (v := ?_) (a' := ?_) #[true, true, false, true, false, false] rfl rfl (by kernel_rfl) (fun _ _ _ h => absurd h.1 (by intro e; cases e)) (Or.inl ⟨by rfl, ?_⟩) hHeld ?_ ?_
          rotate_left
          · intro w' hS
            obtain ⟨s0, s1⟩ := hS; go_simp; (try with_reducible rfl)
          rotate_left
          · simp only [Act.put, List.setIfInBounds_toArray, List.set_cons_zero, List.set_cons_succ]
            rfl
          refine one_ (i := 2) (N := (some 35)) #[true, true, true, true, false, false] rfl rfl (by kernel_rfl) (by decide) (fun K hK => ?_)
          rw [if_pos (by rfl)]
          unfold Oper.wp
          go_simp
          refine (Go.Proofs.YtcpaajecppplhaaGreatDoor.K.num_times.calls k2 _ _ l1 _ tr _ (Kd.C_below HR1.out (below_drew HB1.out)) HC1.out HT.out).mono ?_
          rintro e V1 ⟨tv, rfl, hT1, hbT⟩
          obtain ⟨At, ct, rfl⟩ := Kd.V_slice hT1
          have hbV1 : Below wr.heap.size wr V1 := (below_drew (Below.refl wr.heap.size wr)).trans hbT
          have HT1 := Aside0.mk hT1
          clear hT1 hbT
          have q1 := (hbV1.cell (World.block_lt_of_cell? wr _ g1)).trans g1
          have q3 := (hbV1.cell (World.block_lt_of_cell? wr _ g3)).trans g3
          refine hK.out _ _ ⟨q1, q3⟩ (fun hHeld => ?_)
          clear hK K
          refine one_ (i := 4) (N := (some 37)) #[true, true, true, true, true, false] rfl rfl (by kernel_rfl) (by decide) (fun K hK => ?_)
          rw [if_pos (by rfl)]
          unfold Oper.wp
          go_simp
          refine (compare.calls _ _ _ _ _ _ rr _ (Kd.V_reads' HT1.out).2.2 (Kd.V_reads' HT1.out).2.1 (HRR.out _ (HBW.out.trans (hbV1.mono HBW.out.size))) HRC.out HCM.out).mono ?_
          rintro e V2 ⟨rfl, hb2⟩
          have hbV2 : Below wr.heap.size wr V2 := hbV1.trans (hb2.mono hbV1.size)
          clear hb2
          refine hK.out _ _ ⟨(hbV2.cell (World.block_lt_of_cell? wr _ g1)).trans g1, (hbV2.cell (World.block_lt_of_cell? wr _ g3)).trans g3⟩ (fun hHeld => ?_)
          clear hK K
          refine pure_ (i := 5) (N := (some 38)) (v := ?_) (a' := ?_) #[true, true, true, true, true, true] rfl rfl (by kernel_rfl) (fun _ _ _ h => absurd h.1 (by intro e; cases e)) (Or.inl ⟨by rfl, ?_⟩) ?_ ?_
          rotate_left
          · intro w'
            go_simp
            with_reducible rfl
          rotate_left
          · simp only [Act.put, List.setIfInBounds_toArray, List.set_cons_zero, List.set_cons_succ]
            rfl
          refine done_ (by kernel_rfl) ?_
          refine ⟨rfl, ?_⟩
          gi_wp2
          go_roundw
          case rel => exact ⟨m, hi, rfl, rfl, ⟨HM1.out.2, HA.out.2.1, HLE.out, HA.out.2.2.2⟩, HBW.out.trans (hbV2.mono HBW.out.size)⟩
          case measure => have := HM1.out; have := HA.out.1; simp [intOf]; omega
        · have hr0 : ¬ rr ≤ 0 := by rw [HRRR.out]; unfold cmpN; split <;> (try split) <;> omega
          have hr1 : decide (rr ≤ 0) = false := decide_eq_false hr0
          have HLE := Aside0.mk hle
          clear hle
          gi_wp2
          refine Hd.region_round (m := 6) (S := fun w' => w'.cell? ⟨w.heap.size, 0, none⟩ = some (.slice A1 l1.length c1) ∧ w'.cell? ⟨w.heap.size + 1 + 1 + 1, 0, none⟩ = some (.slice A2 r.length c2)) (ds := []) #[false, false, false, false, false, false] (by kernel_rfl) rfl rfl (by kernel_rfl) ⟨g1, g3⟩ (fun hHeld => ?_)
          refine take_ (i := 0) (N := (some 33)) (v := ?_) (a' := ?_) #[true, false, false, false, false, false] rfl rfl (by kernel_rfl) (fun _ _ _ h => absurd h.1 (by intro e; cases e)) (Or.inl ⟨by rfl, ?_⟩) hHeld ?_ ?_
          rotate_left
          · intro w' hS
            obtain ⟨s0, s1⟩ := hS; go_simp; (try with_reducible rfl)
          rotate_left
          · simp only [Act.put, List.setIfInBounds_toArray, List.set_cons_zero, List.set_cons_succ]
            rfl
          refine pure_ (i := 1) (N := (some 34)) (v := ?_) (a' := ?_) #[true, true, false, false, false, false] rfl rfl (by kernel_rfl) (fun _ _ _ h => absurd h.1 (by intro e; cases e)) (Or.inl ⟨by rfl, ?_⟩) ?_ ?_
          rotate_left
          · intro w'
            go_simp
            with_reducible rfl
          rotate_left
          · simp only [Act.put, List.setIfInBounds_toArray, List.set_cons_zero, List.set_cons_succ]
            rfl
          refine take_ (i := 3) (N := (some 36)) (v := ?_) (a' := ?_) #[true, true, false, true, false, false] rfl rfl (by kernel_rfl) (fun _ _ _ h => absurd h.1 (by intro e; cases e)) (Or.inl ⟨by rfl, ?_⟩) hHeld ?_ ?_
          rotate_left
          · intro w' hS
            obtain ⟨s0, s1⟩ := hS; go_simp; (try with_reducible rfl)
          rotate_left
          · simp only [Act.put, List.setIfInBounds_toArray, List.set_cons_zero, List.set_cons_succ]
            rfl
          refine one_ (i := 2) (N := (some 35)) #[true, true, true, true, false, false] rfl rfl (by kernel_rfl) (by decide) (fun K hK => ?_)
          rw [if_pos (by rfl)]
          unfold Oper.wp
          go_simp
          refine (Go.Proofs.YtcpaajecppplhaaGreatDoor.K.num_times.calls k2 _ _ l1 _ tr _ (Kd.C_below HR1.out (below_drew HB1.out)) HC1.out HT.out).mono ?_
          rintro e V1 ⟨tv, rfl, hT1, hbT⟩
          obtain ⟨At, ct, rfl⟩ := Kd.V_slice hT1
          have hbV1 : Below wr.heap.size wr V1 := (below_drew (Below.refl wr.heap.size wr)).trans hbT
          have HT1 := Aside0.mk hT1
          clear hT1 hbT
          have q1 := (hbV1.cell (World.block_lt_of_cell? wr _ g1)).trans g1
          have q3 := (hbV1.cell (World.block_lt_of_cell? wr _ g3)).trans g3
          refine hK.out _ _ ⟨q1, q3⟩ (fun hHeld => ?_)
          clear hK K
          refine one_ (i := 4) (N := (some 37)) #[true, true, true, true, true, false] rfl rfl (by kernel_rfl) (by decide) (fun K hK => ?_)
          rw [if_pos (by rfl)]
          unfold Oper.wp
          go_simp
          refine (compare.calls _ _ _ _ _ _ rr _ (Kd.V_reads' HT1.out).2.2 (Kd.V_reads' HT1.out).2.1 (HRR.out _ (HBW.out.trans (hbV1.mono HBW.out.size))) HRC.out HCM.out).mono ?_
          rintro e V2 ⟨rfl, hb2⟩
          have hbV2 : Below wr.heap.size wr V2 := hbV1.trans (hb2.mono hbV1.size)
          clear hb2
          refine hK.out _ _ ⟨(hbV2.cell (World.block_lt_of_cell? wr _ g1)).trans g1, (hbV2.cell (World.block_lt_of_cell? wr _ g3)).trans g3⟩ (fun hHeld => ?_)
          clear hK K
          refine pure_ (i := 5) (N := (some 38)) (v := ?_) (a' := ?_) #[true, true, true, true, true, true] rfl rfl (by kernel_rfl) (fun _ _ _ h => absurd h.1 (by intro e; cases e)) (Or.inl ⟨by rfl, ?_⟩) ?_ ?_
          rotate_left
          · intro w'
            go_simp
            with_reducible rfl
          rotate_left
          · simp only [Act.put, List.setIfInBounds_toArray, List.set_cons_zero, List.set_cons_succ]
            rfl
          refine done_ (by kernel_rfl) ?_
          refine ⟨rfl, ?_⟩
          gi_wp2
          go_roundw
          case rel => exact ⟨lo, m, rfl, rfl, ⟨HM1.out.1, by have := HM1.out.2; have := HA.out.2.1; omega, HA.out.2.2.1, Nat.lt_of_not_le HLE.out⟩, HBW.out.trans (hbV2.mono HBW.out.size)⟩
          case measure => have := HM1.out; have := HA.out.1; simp [intOf]; omega
      · have hd1 : decide ((1 : Int) < (hi : Int) - (lo : Int)) = false := decide_eq_false (by omega)
        have hd2 : ¬ (1 : Int) < (hi : Int) - (lo : Int) := by omega
        obtain ⟨hz1, hz2⟩ := search_end Y z lo hi HA.out.2.2.1 HA.out.2.2.2 ha1 (by omega)
        have HZ1 := Aside0.mk hz1
        obtain ⟨k2, hk2⟩ := (timesM_ev (mg Y) lo (pt_mg _) (by omega) (by have := HN1.out; have := HL1.out; omega)).rounds
        rw [mv_mg, ← E1.out] at hk2
        obtain ⟨tr, htr⟩ : ∃ t, t = il (mg (Y * lo)) := ⟨_, rfl⟩
        have hzlen : (mg z).length ≤ 100000 := by
          rcases Nat.lt_or_ge (mg (Y * 1000000000)).length (mg z).length with h | h
          · exact absurd (mg_len_lt h) (by have := HZL.out; omega)
          · have h2 : (mg (Y * 1000000000)).length = (mg Y).length + 1 := by
              rw [mg_pos (by have := HY.out; omega), Nat.mul_div_cancel _ (by decide)]
              rfl
            have := HN1.out; have := HL1.out; omega
        obtain ⟨k3, hk3⟩ := (lessM_ev (mg z) (mg (Y * lo)) (pt_mg _) (pt_mg _) hzlen (by rw [mv_mg, mv_mg]; exact HA.out.2.2.1)).rounds
        rw [mv_mg, mv_mg, hz2, ← htr, ← HRZ.out] at hk3
        rw [← htr] at hk2
        obtain ⟨rest, hrest⟩ : ∃ t, t = il (mg (z % Y)) := ⟨_, rfl⟩
        rw [← hrest] at hk3
        have HT := Aside0.mk hk2
        have HLS := Aside0.mk hk3
        have HREST := Aside0.mk hrest
        have g1 : wr.cell? ⟨w.heap.size, 0, none⟩ = some (.slice A1 l1.length c1) := (HBW.out.cell M1.out.lt).trans M1.out.cell
        have g2 : wr.cell? ⟨w.heap.size + 1 + 1, 0, none⟩ = some (.slice (some ⟨w.heap.size + 1, 0, none⟩) l0.length l0.length) := (HBW.out.cell M2.out.lt).trans M2.out.cell
        have g3 : wr.cell? ⟨w.heap.size + 1 + 1 + 1, 0, none⟩ = some (.slice A2 r.length c2) := (HBW.out.cell M3.out.lt).trans M3.out.cell
        have hB1 : Below w.heap.size w wr := HW04.out.trans (HBW.out.mono (by omega))
        have HB1 := Aside0.mk hB1
        obtain ⟨cur, hcur, hcs⟩ : ∃ cur : Array Value, W4.heap[w.heap.size + 1]? = some (.cells cur 188 (0, 0)) ∧ cur.size = l0.length := by
          rcases (own_of_R MQ.out).2 with ⟨e, _⟩ | ⟨g, cap, cur, e, _, hh, _, _, hs, _⟩
          · cases e
          · injection e with e1 e2 e3
            injection e1 with e1
            injection e1 with e1
            subst e1 e3
            exact ⟨cur, hh, by omega⟩
        have HCUR := Aside0.mk hcur
        have HCS := Aside0.mk hcs
        have hj0 : (0 : Int) ≤ (j : Int) := by omega
        have hj1 : (j : Int) < (l0.length : Int) := by omega
        clear hz1 hz2 hk2 htr hzlen hk3 hrest hg ha1 ha2 hB1 hcur hcs
        gi_wp2
        refine Hd.region_round (m := 11) (S := fun w' => w'.cell? ⟨w.heap.size, 0, none⟩ = some (.slice A1 l1.length c1) ∧ w'.cell? ⟨w.heap.size + 1 + 1, 0, none⟩ = some (.slice (some ⟨w.heap.size + 1, 0, none⟩) l0.length l0.length) ∧ w'.cell? ⟨w.heap.size + 1 + 1 + 1, 0, none⟩ = some (.slice A2 r.length c2)) (ds := [10]) #[false, false, false, false, false, false, false, false, false, false, false] (by kernel_rfl) rfl rfl (by kernel_rfl) ⟨g1, g2, g3⟩ (fun hHeld => ?_)
        refine take_ (i := 0) (N := (some 41)) (v := ?_) (a' := ?_) #[true, false, false, false, false, false, false, false, false, false, false] rfl rfl (by kernel_rfl) (fun _ _ _ h => absurd h.1 (by intro e; cases e)) (Or.inl ⟨by rfl, ?_⟩) hHeld ?_ ?_
        rotate_left
        · intro w' hS
          obtain ⟨s0, s1, s2⟩ := hS; go_simp; (try with_reducible rfl)
        rotate_left
        · simp only [Act.put, List.setIfInBounds_toArray, List.set_cons_zero, List.set_cons_succ]
          rfl
        refine pure_ (i := 1) (N := (some 42)) (v := ?_) (a' := ?_) #[true, true, false, false, false, false, false, false, false, false, false] rfl rfl (by kernel_rfl) (fun _ _ _ h => absurd h.1 (by intro e; cases e)) (Or.inl ⟨by rfl, ?_⟩) ?_ ?_
        rotate_left
        · intro w'
          go_simp
          with_reducible rfl
        rotate_left
        · simp only [Act.put, List.setIfInBounds_toArray, List.set_cons_zero, List.set_cons_succ]
          rfl
        refine pure_ (i := 2) (N := (some 43)) (v := ?_) (a' := ?_) #[true, true, true, false, false, false, false, false, false, false, false] rfl rfl (by kernel_rfl) (fun _ _ _ h => absurd h.1 (by intro e; cases e)) (Or.inl ⟨by rfl, ?_⟩) ?_ ?_
        rotate_left
        · intro w'
          go_simp
          with_reducible rfl
        rotate_left
        · simp only [Act.put, List.setIfInBounds_toArray, List.set_cons_zero, List.set_cons_succ]
          rfl
        refine take_ (i := 3) (N := (some 44)) (v := ?_) (a' := ?_) #[true, true, true, true, false, false, false, false, false, false, false] rfl rfl (by kernel_rfl) (fun _ _ _ h => absurd h.1 (by intro e; cases e)) (Or.inl ⟨by rfl, ?_⟩) hHeld ?_ ?_
        rotate_left
        · intro w' hS
          obtain ⟨s0, s1, s2⟩ := hS; go_simp; (try with_reducible rfl)
        rotate_left
        · simp only [Act.put, List.setIfInBounds_toArray, List.set_cons_zero, List.set_cons_succ]
          rfl
        refine take_ (i := 4) (N := (some 45)) (v := ?_) (a' := ?_) #[true, true, true, true, true, false, false, false, false, false, false] rfl rfl (by kernel_rfl) (fun _ _ _ h => absurd h.1 (by intro e; cases e)) (Or.inl ⟨by rfl, ?_⟩) hHeld ?_ ?_
        rotate_left
        · intro w' hS
          obtain ⟨s0, s1, s2⟩ := hS; go_simp; (try with_reducible rfl)
        rotate_left
        · simp only [Act.put, List.setIfInBounds_toArray, List.set_cons_zero, List.set_cons_succ]
          rfl
        refine pure_ (i := 5) (N := (some 46)) (v := ?_) (a' := ?_) #[true, true, true, true, true, true, false, false, false, false, false] rfl rfl (by kernel_rfl) (fun _ _ _ h => absurd h.1 (by intro e; cases e)) (Or.inl ⟨by rfl, ?_⟩) ?_ ?_
        rotate_left
        · intro w'
          go_simp
          with_reducible rfl
        rotate_left
        · simp only [Act.put, List.setIfInBounds_toArray, List.set_cons_zero, List.set_cons_succ]
          rfl
        refine one_ (i := 6) (N := (some 47)) #[true, true, true, true, true, true, true, false, false, false, false] rfl rfl (by kernel_rfl) (by decide) (fun K hK => ?_)
        rw [if_pos (by rfl)]
        unfold Oper.wp
        go_simp
        refine (Go.Proofs.YtcpaajecppplhaaGreatDoor.K.num_times.calls k2 _ _ l1 _ tr _ (Kd.C_below HR1.out (below_drew HB1.out)) HC1.out HT.out).mono ?_
        rintro e V1 ⟨tv, rfl, hT1, hbT⟩
        obtain ⟨At, ct, rfl⟩ := Kd.V_slice hT1
        have hbV1 : Below wr.heap.size wr V1 := (below_drew (Below.refl wr.heap.size wr)).trans hbT
        have HT1 := Aside0.mk hT1
        clear hT1 hbT
        have q1 := (hbV1.cell (World.block_lt_of_cell? wr _ g1)).trans g1
        have q3 := (hbV1.cell (World.block_lt_of_cell? wr _ g3)).trans g3
        have q2 := (hbV1.cell (World.block_lt_of_cell? wr _ g2)).trans g2
        refine hK.out _ _ ⟨q1, q2, q3⟩ (fun hHeld => ?_)
        clear hK K
        refine one_ (i := 7) (N := (some 48)) #[true, true, true, true, true, true, true, true, false, false, false] rfl rfl (by kernel_rfl) (by decide) (fun K hK => ?_)
        rw [if_pos (by rfl)]
        unfold Oper.wp
        go_simp
        refine (lessR k3 _ _ r _ _ tr rest _ (HRR.out _ (HBW.out.trans (hbV1.mono HBW.out.size))) HRC.out (Kd.V_reads' HT1.out).2.2 (Kd.V_reads' HT1.out).2.1 HLS.out).mono ?_
        rintro e V2 ⟨lv2, rfl, hR5, hb2⟩
        obtain ⟨A5, c5, rfl⟩ := Kd.R_slice hR5
        have hbV2 : Below wr.heap.size wr V2 := hbV1.trans (hb2.mono hbV1.size)
        have hbW2 : Below W4.heap.size W4 V2 := HBW.out.trans (hbV2.mono HBW.out.size)
        have HR5 := Aside0.mk hR5
        clear hb2 hR5
        have x1 : Boxed V2 w.heap.size 159 (.slice A1 l1.length c1) := (hbW2.block _ M1.out.lt).trans M1.out
        have x2 : Boxed V2 (w.heap.size + 1 + 1) 159 (.slice (some ⟨w.heap.size + 1, 0, none⟩) l0.length l0.length) := (hbW2.block _ M2.out.lt).trans M2.out
        have x3 : Boxed V2 (w.heap.size + 1 + 1 + 1) 159 (.slice A2 r.length c2) := (hbW2.block _ M3.out.lt).trans M3.out
        have xc : V2.heap[w.heap.size + 1]? = some (.cells cur 188 (0, 0)) := (hbW2.block _ (Array.getElem?_eq_some_iff.1 HCUR.out).1).trans HCUR.out
        obtain ⟨ov, d1⟩ : ∃ ov, V2.cell? ⟨w.heap.size + 1, j, none⟩ = some ov := ⟨cur[j]'(by have := HCS.out; omega), by simp [World.cell?, xc, HCS.out, hjn]⟩
        have d2 : V2.frozen? ⟨w.heap.size + 1, j, none⟩ = false := by simp [World.frozen?, xc]
        have y1 : Boxed (V2.setCell ⟨w.heap.size + 1, j, none⟩ (.int .u64 (lo : Int))) w.heap.size 159 (.slice A1 l1.length c1) := (Below.heap_setCell _ _ _ _ (by show _ ≠ _; simp only; omega)).trans x1
        have y2 : Boxed (V2.setCell ⟨w.heap.size + 1, j, none⟩ (.int .u64 (lo : Int))) (w.heap.size + 1 + 1) 159 (.slice (some ⟨w.heap.size + 1, 0, none⟩) l0.length l0.length) := (Below.heap_setCell _ _ _ _ (by show _ ≠ _; simp only; omega)).trans x2
        have y3 : Boxed (V2.setCell ⟨w.heap.size + 1, j, none⟩ (.int .u64 (lo : Int))) (w.heap.size + 1 + 1 + 1) 159 (.slice A2 r.length c2) := (Below.heap_setCell _ _ _ _ (by show _ ≠ _; simp only; omega)).trans x3
        refine hK.out _ _ ⟨x1.cell, x2.cell, x3.cell⟩ (fun hHeld => ?_)
        clear hK K
        refine pure_ (i := 8) (N := (some 49)) (v := ?_) (a' := ?_) #[true, true, true, true, true, true, true, true, true, false, false] rfl rfl (by kernel_rfl) (fun _ _ _ h => absurd h.1 (by intro e; cases e)) (Or.inl ⟨by rfl, ?_⟩) ?_ ?_
        rotate_left
        · intro w'
          go_simp
          with_reducible rfl
        rotate_left
        · simp only [Act.put, List.setIfInBounds_toArray, List.set_cons_zero, List.set_cons_succ]
          rfl
        refine one_ (i := 9) (N := none) #[true, true, true, true, true, true, true, true, true, true, false] rfl rfl (by kernel_rfl) (by decide) (fun K hK => ?_)
        rw [if_pos (by rfl)]
        unfold Oper.wp
        go_simp
        refine hK.out _ _ ⟨y1.cell, y2.cell, y3.cell⟩ (fun hHeld => ?_)
        clear hK K
        refine last_ (i := 10) (N := none) #[true, true, true, true, true, true, true, true, true, true, true] rfl rfl (by kernel_rfl) (by decide) (fun K hK => ?_)
        rw [if_pos (by rfl)]
        unfold Oper.wp
        have z0 := y3.cell
        have z1 := y3.frozen
        go_simp
        refine hK.out _ _ ?_
        clear hK K
        refine done_ (by kernel_rfl) ?_
        refine ⟨rfl, ?_⟩
        have hsV1 : W4.heap.size ≤ V1.heap.size := Nat.le_trans HBW.out.size hbV1.size
        have stV : St w.heap.size (w.heap.size + 1 + 1 + 1 + 1) W V2 := SA.out.t (St.below hbW2 (by omega) HW4)
        have stF : St w.heap.size (w.heap.size + 1 + 1 + 1 + 1) W ((V2.setCell ⟨w.heap.size + 1, j, none⟩ (.int .u64 (lo : Int))).setCell ⟨w.heap.size + 1 + 1 + 1, 0, none⟩ (.slice A5 rest.length c5)) :=
          (stV.t (St.set V2 ⟨w.heap.size + 1, j, none⟩ _ (by show _ ≤ _; simp only; omega) (by show _ ≠ _; simp only; omega))).t (St.set _ ⟨w.heap.size + 1 + 1 + 1, 0, none⟩ _ (by show _ ≤ _; simp only; omega) (by show _ ≠ _; simp only; omega))
        have x7 : Boxed V2 (w.heap.size + 1 + 1 + 1 + 1) 159 (.slice A0 l0.length c0) := (hbW2.block _ HW4).trans M7.out
        have hq := (Kd.R_putg (h1 := fun _ => rfl) (enc := Value.int .u64) (show (Kd.scalar (Value.int .u64) (fun _ => rfl)).R 188 V2 w.heap.size (fun b => b = w.heap.size + 1) (.slice (some ⟨w.heap.size + 1, 0, none⟩) l0.length l0.length) (il q) from Kd.R_below MQ.out hbW2) (j : Int) (lo : Int)).1
        rw [Int.toNat_natCast, ← il_set] at hq
        refine ⟨stF.1.1.from _, ⟨stF.1.2, stF.2⟩, ?_⟩
        show QSt _ _ _ _ _ _ _ _ (qAt X Y l0.length (pre ++ [x])) _
        rw [HSN.out]
        refine ⟨⟨?_, ?_, ?_⟩, H3.out.trans stF.1.2, ⟨_, y3.set _, ?_⟩, ?_⟩
        · exact (Below.heap_setCell _ _ _ _ (by show _ ≠ _; simp only; omega)).trans y1
        · exact (Below.heap_setCell _ _ _ _ (by show _ ≠ _; simp only; omega)).trans y2
        · exact (Below.heap_setCell _ _ _ _ (by show _ ≠ _; simp only; omega)).trans ((Below.heap_setCell _ _ _ _ (by show _ ≠ _; simp only; omega)).trans x7)
        · show Kd.R (Kd.int .u64) 188 _ _ _ _ (il (mg (z % Y)))
          rw [← HREST.out]
          exact Kd.R_mono (Kd.R_lower (Kd.R_far (p := ⟨w.heap.size + 1 + 1 + 1, 0, none⟩) (Kd.R_far (p := ⟨w.heap.size + 1, j, none⟩) HR5.out (fun k hk => by show _ ≠ _; simp only; omega) _) (fun k hk => by show _ ≠ _; simp only; omega) _) (by omega)) (fun k hk => by omega)
        · show Kd.R (Kd.int .u64) 188 _ _ _ _ (il (q.set x.1 (z / Y)))
          rw [HZ1.out, ← HJ.out]
          exact Kd.R_far (p := ⟨w.heap.size + 1 + 1 + 1, 0, none⟩) hq (fun k hk => by show _ ≠ _; simp only; omega) _
  case done =>
    rintro D ys W hD rfl ⟨⟨h1, h2, h7⟩, h3, ⟨lv, h4, h5⟩, h6⟩ hK
    have hXl : X < 1000000000 ^ l0.length := by
      have := mv_lt (mg X) (pt_mg X)
      rw [mv_mg, HN.out] at this
      exact this
    obtain ⟨e1, e2⟩ := qAt_bk X Y l0.length HY.out hXl l0.length (Nat.le_refl _)
    obtain ⟨hi1, hi2, hi3⟩ := qAt_inv X Y l0.length HY.out (bk l0.length l0.length)
    rw [Nat.sub_self, Nat.pow_zero, Nat.div_one] at e1 e2
    rw [Nat.mul_one] at e2
    obtain ⟨LQ, hLQ⟩ : ∃ s, s = qAt X Y l0.length (bk l0.length l0.length) := ⟨_, rfl⟩
    rw [← hLQ] at hi1 hi2 hi3 h5 h6 e1 e2
    clear hLQ
    obtain ⟨Lv, q⟩ := LQ
    simp only at hi1 hi2 hi3 h5 h6 e1 e2
    obtain ⟨k1, hk1⟩ := (trimM_ev q (by omega) hi3).rounds
    rw [e2] at hk1
    rw [e1] at h5
    obtain ⟨rq, hrq⟩ : ∃ r, r = il (mg (X / Y)) := ⟨_, rfl⟩
    rw [← hrq] at hk1
    have HRQ := Aside0.mk hrq
    have hql : (il q).length = l0.length := by rw [il_len]; exact hi2
    have HTQ := Aside0.mk (trimR k1 w.heap.size (fun b => b = w.heap.size + 1) (some ⟨w.heap.size + 1, 0, none⟩) l0.length (il q) rq W.drew (by rw [hql]; exact Kd.R_drew h6) hk1)
    have H5 := Aside0.mk h5
    have g2 := h2.cell
    have g4 := h4.cell
    rw [hql] at HTQ
    have H3 := Aside0.mk h3
    clear hi1 hi2 hi3 e1 e2 hk1 h1 h2 h7 h3 h4 h5 h6 hrq hql hXl
    gi_wp2
    refine wpIn_wide.2 ?_
    refine region_top (m := 5) (S := fun w' => w'.cell? ⟨w.heap.size + 1 + 1, 0, none⟩ = some (.slice (some ⟨w.heap.size + 1, 0, none⟩) l0.length l0.length) ∧ w'.cell? ⟨w.heap.size + 1 + 1 + 1, 0, none⟩ = some lv) (ds := []) #[false, false, false, false, false] (by kernel_rfl) rfl rfl ⟨g2, g4⟩ (fun hHeld => ?_)
    refine take_ (i := 0) (N := (some 50)) (v := ?_) (a' := ?_) #[true, false, false, false, false] rfl rfl (by kernel_rfl) (fun _ _ _ h => absurd h.1 (by intro e; cases e)) (Or.inl ⟨by rfl, ?_⟩) hHeld ?_ ?_
    rotate_left
    · intro w' hS
      obtain ⟨s0, s1⟩ := hS; go_simp; (try with_reducible rfl)
    rotate_left
    · simp only [Act.put, List.setIfInBounds_toArray, List.set_cons_zero, List.set_cons_succ]
      rfl
    refine take_ (i := 2) (N := (some 52)) (v := ?_) (a' := ?_) #[true, false, true, false, false] rfl rfl (by kernel_rfl) (fun _ _ _ h => absurd h.1 (by intro e; cases e)) (Or.inl ⟨by rfl, ?_⟩) hHeld ?_ ?_
    rotate_left
    · intro w' hS
      obtain ⟨s0, s1⟩ := hS; go_simp; (try with_reducible rfl)
    rotate_left
    · simp only [Act.put, List.setIfInBounds_toArray, List.set_cons_zero, List.set_cons_succ]
      rfl
    refine one_ (i := 1) (N := (some 51)) #[true, true, true, false, false] rfl rfl (by kernel_rfl) (by decide) (fun K hK => ?_)
    rw [if_pos (by rfl)]
    unfold Oper.wp
    go_simp
    refine HTQ.out.mono ?_
    rintro e W3 ⟨rfl, hR3, ⟨nd, rfl⟩⟩
    refine hK.out _ _ ⟨by simpa using g2, by simpa using g4⟩ (fun hHeld => ?_)
    clear hK K
    refine pure_ (i := 3) (N := (some 4)) (v := ?_) (a' := ?_) #[true, true, true, true, false] rfl rfl (by kernel_rfl) (fun _ _ _ h => absurd h.1 (by intro e; cases e)) (Or.inl ⟨by rfl, ?_⟩) ?_ ?_
    rotate_left
    · intro w'
      go_simp
      with_reducible rfl
    rotate_left
    · simp only [Act.put, List.setIfInBounds_toArray, List.set_cons_zero, List.set_cons_succ]
      rfl
    refine pure_ (i := 4) (N := (some 5)) (v := ?_) (a' := ?_) #[true, true, true, true, true] rfl rfl (by kernel_rfl) (fun _ _ _ h => absurd h.1 (by intro e; cases e)) (Or.inl ⟨by rfl, ?_⟩) ?_ ?_
    rotate_left
    · intro w'
      go_simp
      with_reducible rfl
    rotate_left
    · simp only [Act.put, List.setIfInBounds_toArray, List.set_cons_zero, List.set_cons_succ]
      rfl
    refine done_ (by kernel_rfl) ?_
    refine ⟨rfl, ?_⟩
    gi_wp2
    have hK4 : (W.drew.drewN nd).heap[D]? = some (.deferred (some [])) := hK
    refine ⟨by simp, .inl ⟨_, _, rfl, run_takeDeferred hK4, ?_⟩⟩
    have hg := grownBy_putObj' (W.drew.drewN nd) D (.deferred none)
    have hc : ∀ r, some D = some r → ∃ o : Obj, (W.drew.drewN nd).heap[r]? = some o ∧ o.isCells = false := fun r e => by cases e; exact ⟨_, hK4, rfl⟩
    refine ⟨.tuple #[.slice (some ⟨w.heap.size + 1, 0, none⟩) rq.length l0.length, lv], by simp [results, Tryz.f199, go_sem], _, _, rfl, ?_, ?_, ?_⟩
    · rw [← HRQ.out]
      exact R_hold (Kd.R_drewN hR3 nd) hg hc
    · exact R_hold (Kd.R_drewN (Kd.R_drew H5.out) nd) hg hc
    · exact (pw_below_drewN (below_drew H3.out) nd).trans (belowK_b (w := w) (Nat.le_refl _) (W.drew.drewN nd) D _ _ (by omega) hK4 rfl rfl)
  case stop =>
    rintro D c pre W _ _ h _
    exact h.elim
end Go.Proofs.YtcpaajecppplhaaGreatDoor.Hd
end
