/- shape.Place: what it tells, at every shape and offset. -/
import Derived.Test.YtjhdnaahmiiegaaH2
import Derived.Test.YtjhdnaahmiiegaaK
import Derived.Test.YtjhdnaahmiiegaaHW
import Derived.RangeFuncNested
import Derived.RangeFuncBound
import Derived.RangeFuncCalls
import Derived.RangeFuncLeaves
import Derived.Shelf.Abstract
import Derived.Shelf.RegionOpen
import Derived.OwnWalkIn
import Derived.TacticsInMore
import Derived.LoopNIn
import Derived.LoopIn
namespace Go.Proofs.Ytjhdnaahmiiegaa.Hd
open Go.RowKit Go.Proofs.YtjhdnaahmiiegaaW.PrintWords Go.Proofs.YtjhdnaahmiiegaaW.PrintLast Go.Proofs.YtjhdnaahmiiegaaW.PrintMore Go.Proofs.Ytjhdnaahmiiegaa.B Go.Shelf
attribute [local go_sem] Oper.semAt_some
set_option linter.unusedVariables false
set_option linter.unusedSimpArgs false

/-- one round: the place on axis j, and what is left of the offset -/
def plStep (l0 : List Int) (s : List Int × Int) (j : Fin l0.length) : List Int × Int := (s.1.set j.1 (Int.tmod s.2 (l0.getD j.1 0)), wrap64 (Int.tdiv s.2 (l0.getD j.1 0)))
def plAt (l0 : List Int) (a1 : Int) (pre : List (Fin l0.length)) : List Int × Int := pre.foldl (plStep l0) (List.replicate l0.length 0, a1)
theorem plAt_snoc (l0 : List Int) (a1 : Int) (pre : List (Fin l0.length)) (j : Fin l0.length) : plAt l0 a1 (pre ++ [j]) = plStep l0 (plAt l0 a1 pre) j := by simp [plAt]
theorem plAt_len (l0 : List Int) (a1 : Int) (pre : List (Fin l0.length)) : (plAt l0 a1 pre).1.length = l0.length := by
  unfold plAt
  have : ∀ (s : List Int × Int), (pre.foldl (plStep l0) s).1.length = s.1.length := by
    induction pre with
    | nil => intro s; rfl
    | cons j pre ih => intro s; rw [List.foldl_cons, ih]; simp [plStep]
  rw [this]
  simp
def shape_Place.f (k : Nat) (l0 : List Int) (a1 : Int) : Option (List Int × Bool) :=
  (K.shape_Size.f k l0).bind fun r => if r.2 = 0 then (if a1 < 0 then some ([], false) else if a1 ≥ r.1 then some ([], false) else if (∃ n ∈ l0, n = 0) ∨ 17592186044416 ≤ l0.length then none else some ((plAt l0 a1 (bk l0.length l0.length)).1, true)) else some ([], false)

set_option maxRecDepth 100000 in
set_option maxHeartbeats 4000000 in
theorem shape_Place.calls_yes (k : Nat) (A0 : Option Addr) (c0 : Nat) (l0 : List Int) (a1 m : Int) (w : World) (hr0 : Kd.C (Kd.int .i64) w A0 l0.length l0) (hc0 : l0.length ≤ c0)
    (hs : K.shape_Size.f k l0 = some (m, 0)) (h1 : 0 ≤ a1) (h2 : a1 < m) (h3 : ∀ n ∈ l0, n ≠ 0) (h4 : l0.length < 17592186044416) :
    Calls Try.prog 15 #[.slice A0 l0.length c0, .int .i64 a1] w fun e w' => ∃ v0_ : Value, e = .returned (.tuple #[v0_, .bool true]) ∧ Kd.R (Kd.int .i64) 3 w' w.heap.size (fun _ => True) v0_ (plAt l0 a1 (bk l0.length l0.length)).1 ∧ Below w.heap.size w w' := by
  have HR0 := Aside0.mk hr0
  have HS := Aside0.mk hs
  have H3 := Aside0.mk h3
  clear hr0 hs h3
  obtain ⟨i0, hi, hz0, hz1, hz2⟩ := info_parts info3
  obtain ⟨C, hC⟩ : ∃ C, C = madeCells (Value.int .i64 0).cells (l0.length * 1) := ⟨_, rfl⟩
  have hmk : ∀ W : World, (Instr.makeSlice 22 (.int .i64 (l0.length : Int)) (.int .i64 (l0.length : Int))).run Try.prog W = .ok (.slice (some ⟨W.heap.size, 0, none⟩) l0.length l0.length) (W.alloc (.cells C 3)) := fun W => by
    have h := run_make (P := Try.prog) (w := W) 22 3 i0 (.int .i64 0) Try.underlying22 hi hz0 .i64 .i64 (l0.length : Int) (l0.length : Int) (by omega) (by omega) (by rw [hz2]; omega) (by omega)
    rw [hz1] at h
    rw [hC]
    simpa using h
  have hCs : C.size = l0.length := by rw [hC]; simp [madeCells]
  have HCC := Aside0.mk hC
  clear hi hz0 hz1 hz2 hC
  refine (callsIn_wide (n := 6)).1 ?_
  have hro : Fence.wide.round = none := rfl
  refine callsIn_of_wp_marks Try.func15 rfl trivial ?_ hro
  simp only [Try.ntmps15, List.size_toArray, List.length_cons, List.length_nil, Nat.reduceAdd, Nat.reduceSub, Array.replicate_succ, Array.replicate_zero, List.push_toArray, List.append_toArray, List.nil_append, List.cons_append]
  gi_wp2_with (first
    | (refine ⟨trivial, ?_⟩; gi_at_call 10; refine (callsIn_wide.2 (K.shape_Size.calls k _ _ l0 m 0 _ (by repeat (first | exact HR0.out | (with_reducible refine Kd.C_alloc ?_ _))) hc0 HS.out)).mono ?_; rintro e w' ⟨rfl, ⟨nd, rfl⟩⟩)
    | (refine ⟨trivial, ?_⟩; gi_at_call 30; refine (back_in Fence.wide _ trivial rfl _ _ _ _).mono ?_; rintro e w' ⟨rfl, rfl⟩))
  obtain ⟨W0, hW0⟩ : ∃ W0, W0 = ((((((w.alloc (.cells #[.int .i64 a1] 3)).drewN nd).alloc (.cells C 3)).alloc (.cells #[.slice (some ⟨w.heap.size + 1, 0, none⟩) l0.length l0.length] 22)).alloc (.cells #[.slice A0 l0.length c0] 22)) : World) := ⟨_, rfl⟩
  have hsz : W0.heap.size = w.heap.size + 4 := by rw [hW0]; simp
  have hB0 : Below w.heap.size w W0 := by
    rw [hW0]
    exact (((pw_below_drewN ((Below.refl _ w).alloc (Nat.le_refl _) _) nd).alloc (by simp) _).alloc (by simp; omega) _).alloc (by simp; omega) _
  have b0 : Boxed W0 w.heap.size 3 (.int .i64 a1) := by
    rw [hW0]
    exact (((Boxed.new w 3 (.int .i64 a1)).alloc _).alloc _).alloc _
  have hCr : C = rowOf (Value.int .i64) (List.replicate l0.length 0) := by
    rw [HCC.out]
    apply Array.ext
    · simp [madeCells, rowOf]
    · intro i h1 h2
      simp [madeCells, rowOf, Value.cells, Nat.mod_one]
  have b1 : W0.heap[w.heap.size + 1]? = some (.cells (rowOf (Value.int .i64) (List.replicate l0.length 0)) 3 (0, 0)) := by
    rw [hW0, ← hCr]
    have e := World.alloc_heap_new ((w.alloc (.cells #[.int .i64 a1] 3)).drewN nd) (.cells C 3)
    rw [show ((w.alloc (.cells #[.int .i64 a1] 3)).drewN nd).heap.size = w.heap.size + 1 from by simp] at e
    exact blk_kept (blk_kept e (World.grownBy_alloc _ _ none) (fun r e => by cases e)) (World.grownBy_alloc _ _ none) (fun r e => by cases e)
  have b2 : Boxed W0 (w.heap.size + 1 + 1) 22 (.slice (some ⟨w.heap.size + 1, 0, none⟩) l0.length l0.length) := by
    rw [hW0]
    have e := Boxed.new (((w.alloc (.cells #[.int .i64 a1] 3)).drewN nd).alloc (.cells C 3)) 22 (.slice (some ⟨w.heap.size + 1, 0, none⟩) l0.length l0.length)
    rw [show (((w.alloc (.cells #[.int .i64 a1] 3)).drewN nd).alloc (.cells C 3)).heap.size = w.heap.size + 1 + 1 from by simp] at e
    exact e.alloc _
  have b3 : Boxed W0 (w.heap.size + 1 + 1 + 1) 22 (.slice A0 l0.length c0) := by
    rw [hW0]
    have e := Boxed.new ((((w.alloc (.cells #[.int .i64 a1] 3)).drewN nd).alloc (.cells C 3)).alloc (.cells #[.slice (some ⟨w.heap.size + 1, 0, none⟩) l0.length l0.length] 22)) 22 (.slice A0 l0.length c0)
    rw [show ((((w.alloc (.cells #[.int .i64 a1] 3)).drewN nd).alloc (.cells C 3)).alloc (.cells #[.slice (some ⟨w.heap.size + 1, 0, none⟩) l0.length l0.length] 22)).heap.size = w.heap.size + 1 + 1 + 1 from by simp] at e
    exact e
  rw [← hW0]
  clear hW0 hmk
  refine wpIn_rangeFunc_ownG hro (by omega) (gf := 34) (lb := #[.pointer (some ⟨w.heap.size + 1 + 1 + 1, 0, none⟩)]) rfl trivial (enters_of Try.func34 (by kernel_rfl) rfl)
    (back_stops Fence.wide 5 trivial hro (by omega) (w.heap.size + 1 + 1 + 1) w.heap.size A0 c0 l0 w W0 rfl HR0.out hB0 b3) Kb.t (Kb.b (by omega) (by omega)) (Below.refl _ _) (fun _ => rfl)
    (fun pre W => (Boxed W w.heap.size 3 (.int .i64 (plAt l0 a1 pre).2) ∧ Boxed W (w.heap.size + 1 + 1) 22 (.slice (some ⟨w.heap.size + 1, 0, none⟩) l0.length l0.length) ∧ W.heap[w.heap.size + 1]? = some (.cells (rowOf (Value.int .i64) (plAt l0 a1 pre).1) 3 (0, 0))) ∧ Below w.heap.size w W)
    (fun _ _ _ => False)
    ?hI (fun _ _ _ _ _ hs _ _ => hs) ⟨⟨b0, b2, b1⟩, hB0⟩
    (fun x => { tmps := #[.slice A0 l0.length c0, .int .i64 a1, undef, .pointer (some ⟨w.heap.size, 0, none⟩), .slice none 0 0, .bool false, .int .i64 m, .int .i64 0, .pointer (some ⟨w.heap.size + 1 + 1, 0, none⟩), (.int .i64 ((x.1 : Nat) : Int)), (.int .i64 (l0.getD x.1 0)), .tuple #[.int .i64 m, .int .i64 0], .slice A0 l0.length c0, .tuple #[.int .i64 m, .int .i64 0], .int .i64 m, .int .i64 0, .int .i64 0, .bool false, .bool false, .int .i64 a1, .bool (decide (a1 < 0)), .bool (decide (a1 < 0)), .bool (decide (a1 < 0)), .int .i64 a1, .int .i64 m, .bool (decide (m ≤ a1)), .bool (decide (a1 < 0) || decide (m ≤ a1)), .slice A0 l0.length c0, .int .i64 (l0.length : Int), .slice (some ⟨w.heap.size + 1, 0, none⟩) l0.length l0.length, .slice A0 l0.length c0, .func (.func 34) #[] #[.pointer (some ⟨w.heap.size + 1 + 1 + 1, 0, none⟩)], (.int .i64 ((x.1 : Nat) : Int)), (.int .i64 (l0.getD x.1 0)), undef, undef, undef, undef, undef, undef, undef, undef, undef, undef], defers := [] }) ?assign ?body ?done ?stop
  case hI =>
    refine OwnFrom.and (Own.from (fun pre A B row hs hg hr => ⟨?_, ?_, ?_⟩) _) (ownFrom_below (Nat.le_refl _) (by omega))
    · exact boxed_own _ _ (fun _ : Unit => _) () A B row hs.1 hg hr
    · exact boxed_own _ _ (fun _ : Unit => _) () A B row hs.2.1 hg hr
    · exact blk_kept hs.2.2 hg hr
  case assign =>
    intro l x W K hK
    generalize l0.getD x.1 0 = v at *
    generalize x.1 = j at *
    gi_wp2
    exact hK
  case body =>
    rintro l pre x W ⟨⟨h0, h2, h1⟩, hB⟩ _
    obtain ⟨s, hs⟩ : ∃ s, s = plAt l0 a1 pre := ⟨_, rfl⟩
    have hsl : s.1.length = l0.length := by rw [hs]; exact plAt_len _ _ _
    obtain ⟨v, hv⟩ : ∃ v, v = l0.getD x.1 0 := ⟨_, rfl⟩
    have hvn : v ≠ 0 := by rw [hv]; exact H3.out _ (by simp [List.getD, List.getElem?_eq_getElem x.2])
    have hx : x.1 < l0.length := x.2
    obtain ⟨j, hj⟩ : ∃ j : Nat, j = x.1 := ⟨_, rfl⟩
    rw [← hs] at h0 h1
    rw [← hj] at hx
    rw [← hv, ← hj]
    have g0 := h0.cell
    have f0 := h0.frozen
    have g2 := h2.cell
    have vn : (v == 0) = false := beq_eq_false_iff_ne.mpr hvn
    have HVN := Aside0.mk hvn
    clear hvn
    have HJ := Aside0.mk hj
    have HV := Aside0.mk hv
    have HSS := Aside0.mk hs
    clear hj hv hs
    have g1 : W.cell? ⟨w.heap.size + 1, j, none⟩ = some (.int .i64 (s.1.getD j 0)) := by
      simp [World.cell?, h1, rowOf, hsl, hx]
    have f1 : W.frozen? ⟨w.heap.size + 1, j, none⟩ = false := by
      simp [World.frozen?, h1]
    obtain ⟨x1, hx1⟩ : ∃ x1, x1 = s.2.tmod v := ⟨_, rfl⟩
    obtain ⟨x2, hx2⟩ : ∃ x2, x2 = IntKind.i64.wrap (s.2.tdiv v) := ⟨_, rfl⟩
    have h1' : (W.setCell ⟨w.heap.size + 1, j, none⟩ (.int .i64 (s.2.tmod v))).heap[w.heap.size + 1]? = some (.cells (rowOf (Value.int .i64) (s.1.set j (s.2.tmod v))) 3 (0, 0)) := by
      rw [rowOf_set]
      exact blk_set h1 j _ rfl (by rw [rowOf_size, hsl]; exact hx)
    have h0' : Boxed (W.setCell ⟨w.heap.size + 1, j, none⟩ (.int .i64 (s.2.tmod v))) w.heap.size 3 (.int .i64 s.2) := (Below.heap_setCell _ _ _ _ (by simp)).trans h0
    have h2' : Boxed (W.setCell ⟨w.heap.size + 1, j, none⟩ (.int .i64 (s.2.tmod v))) (w.heap.size + 1 + 1) 22 (.slice (some ⟨w.heap.size + 1, 0, none⟩) l0.length l0.length) := (Below.heap_setCell _ _ _ _ (by simp)).trans h2
    gi_wp2
    refine Hd.region_round (m := 11) (S := fun w' => w'.cell? ⟨w.heap.size, 0, none⟩ = some (.int .i64 s.2) ∧ w'.cell? ⟨w.heap.size + 1 + 1, 0, none⟩ = some (.slice (some ⟨w.heap.size + 1, 0, none⟩) l0.length l0.length)) (ds := [10]) #[false, false, false, false, false, false, false, false, false, false, false] (by kernel_rfl) rfl rfl (by kernel_rfl) ⟨g0, g2⟩ (fun hHeld => ?_)
    refine pure_ (i := 1) (N := (some 35)) (v := ?_) (a' := ?_) #[false, true, false, false, false, false, false, false, false, false, false] rfl rfl (by kernel_rfl) (fun _ _ _ h => h) (Or.inl ⟨by rfl, ?_⟩) ?_ ?_
    rotate_left
    · intro w'
      go_simp
      with_reducible rfl
    rotate_left
    · simp only [Act.put, List.setIfInBounds_toArray, List.set_cons_zero, List.set_cons_succ]
      rfl
    refine pure_ (i := 3) (N := (some 37)) (v := ?_) (a' := ?_) #[false, true, false, true, false, false, false, false, false, false, false] rfl rfl (by kernel_rfl) (fun _ _ _ h => h) (Or.inl ⟨by rfl, ?_⟩) ?_ ?_
    rotate_left
    · intro w'
      go_simp
      with_reducible rfl
    rotate_left
    · simp only [Act.put, List.setIfInBounds_toArray, List.set_cons_zero, List.set_cons_succ]
      rfl
    refine pure_ (i := 6) (N := (some 40)) (v := ?_) (a' := ?_) #[false, true, false, true, false, false, true, false, false, false, false] rfl rfl (by kernel_rfl) (fun _ _ _ h => h) (Or.inl ⟨by rfl, ?_⟩) ?_ ?_
    rotate_left
    · intro w'
      go_simp
      with_reducible rfl
    rotate_left
    · simp only [Act.put, List.setIfInBounds_toArray, List.set_cons_zero, List.set_cons_succ]
      rfl
    refine take_ (i := 0) (N := (some 34)) (v := ?_) (a' := ?_) #[true, true, false, true, false, false, true, false, false, false, false] rfl rfl (by kernel_rfl) (fun _ _ _ h => h) (Or.inl ⟨by rfl, ?_⟩) hHeld ?_ ?_
    rotate_left
    · intro w' hS
      obtain ⟨q0, q2⟩ := hS; go_simp; (try with_reducible rfl)
    rotate_left
    · simp only [Act.put, List.setIfInBounds_toArray, List.set_cons_zero, List.set_cons_succ]
      rfl
    refine take_ (i := 2) (N := (some 36)) (v := ?_) (a' := ?_) #[true, true, true, true, false, false, true, false, false, false, false] rfl rfl (by kernel_rfl) (fun _ _ _ h => h) (Or.inl ⟨by rfl, ?_⟩) hHeld ?_ ?_
    rotate_left
    · intro w' hS
      obtain ⟨q0, q2⟩ := hS; go_simp; (try with_reducible rfl)
    rotate_left
    · simp only [Act.put, List.setIfInBounds_toArray, List.set_cons_zero, List.set_cons_succ]
      rfl
    refine take_ (i := 5) (N := (some 39)) (v := ?_) (a' := ?_) #[true, true, true, true, false, true, true, false, false, false, false] rfl rfl (by kernel_rfl) (fun _ _ _ h => h) (Or.inl ⟨by rfl, ?_⟩) hHeld ?_ ?_
    rotate_left
    · intro w' hS
      obtain ⟨q0, q2⟩ := hS; go_simp; (try with_reducible rfl)
    rotate_left
    · simp only [Act.put, List.setIfInBounds_toArray, List.set_cons_zero, List.set_cons_succ]
      rfl
    refine pure_ (i := 4) (N := (some 38)) (v := ?_) (a' := ?_) #[true, true, true, true, true, true, true, false, false, false, false] rfl rfl (by kernel_rfl) (fun _ _ _ h => h) (Or.inl ⟨by rfl, ?_⟩) ?_ ?_
    rotate_left
    · intro w'
      go_simp
      rw [if_neg HVN.out]
    rotate_left
    · simp only [Act.put, List.setIfInBounds_toArray, List.set_cons_zero, List.set_cons_succ]
      rfl
    refine pure_ (i := 7) (N := (some 41)) (v := ?_) (a' := ?_) #[true, true, true, true, true, true, true, true, false, false, false] rfl rfl (by kernel_rfl) (fun _ _ _ h => h) (Or.inl ⟨by rfl, ?_⟩) ?_ ?_
    rotate_left
    · intro w'
      go_simp
      rw [if_neg HVN.out]
    rotate_left
    · simp only [Act.put, List.setIfInBounds_toArray, List.set_cons_zero, List.set_cons_succ]
      rfl
    refine pure_ (i := 8) (N := (some 42)) (v := ?_) (a' := ?_) #[true, true, true, true, true, true, true, true, true, false, false] rfl rfl (by kernel_rfl) (fun _ _ _ h => h) (Or.inl ⟨by rfl, ?_⟩) ?_ ?_
    rotate_left
    · intro w'
      go_simp
      with_reducible rfl
    rotate_left
    · simp only [Act.put, List.setIfInBounds_toArray, List.set_cons_zero, List.set_cons_succ]
      rfl
    refine one_ (i := 9) (N := none) #[true, true, true, true, true, true, true, true, true, true, false] rfl rfl (by kernel_rfl) (by decide) (fun K hK => ?_)
    rw [if_pos (by rfl)]
    unfold Oper.wp
    go_simp
    refine hK.out _ _ ⟨by simpa using h0'.cell, by simpa using h2'.cell⟩ (fun hHeld => ?_)
    clear hK K
    refine last_ (i := 10) (N := none) #[true, true, true, true, true, true, true, true, true, true, true] rfl rfl (by kernel_rfl) (by decide) (fun K hK => ?_)
    rw [if_pos (by rfl)]
    unfold Oper.wp
    have q0 := h0'.cell
    have q1 := h0'.frozen
    go_simp
    refine hK.out _ _ ?_
    clear hK K
    refine done_ (by kernel_rfl) ?_

    refine ⟨rfl, ?_⟩
    have hwrap : IntKind.i64.wrap (s.2.tdiv v) = wrap64 (s.2.tdiv v) := by unfold wrap64; exact IntKind.wrap_i64 _
    have hst : plStep l0 s x = (s.1.set j (s.2.tmod v), IntKind.i64.wrap (s.2.tdiv v)) := by rw [hwrap]; simp only [plStep]; rw [← HJ.out, ← show v = l0.getD j 0 from HJ.out ▸ HV.out]
    have B2 : Below w.heap.size W ((W.setCell ⟨w.heap.size + 1, j, none⟩ (.int .i64 (s.2.tmod v))).setCell ⟨w.heap.size, 0, none⟩ (.int .i64 (IntKind.i64.wrap (s.2.tdiv v)))) := ((Below.refl _ W).setCell (p := ⟨w.heap.size + 1, j, none⟩) (by simp) _).setCell (p := ⟨w.heap.size, 0, none⟩) (by simp) _
    refine ⟨(((KeepsOthers.setCell W _ _).trans (KeepsOthers.setCell _ _ _)).trans (KeepsOthers.drew _)).from _, ⟨B2.drew, ?_⟩, ?_⟩
    · exact (Below.heap_setCell _ _ _ _ (by show _ ≠ _; simp only; omega)).trans (Below.heap_setCell _ _ _ _ (by show _ ≠ _; simp only; omega))
    · dsimp only
      rw [plAt_snoc, ← HSS.out, hst]
      exact ⟨⟨h0'.set _, (Below.heap_setCell _ _ _ _ (by show _ ≠ _; simp only; omega)).trans h2', (Below.heap_setCell _ _ _ _ (by show _ ≠ _; simp only; omega)).trans h1'⟩, (hB.trans B2).drew⟩
  case done =>
    rintro D ys W hD rfl ⟨⟨h0, h2, h1⟩, hB⟩ hK
    have g2 := h2.cell
    gi_wp2
    refine ⟨by simp, .inl ⟨_, _, rfl, run_takeDeferred hK, ?_⟩⟩
    have h1' := blk_kept h1 (grownBy_putObj' W D (.deferred none)) (fun r e => by cases e; exact ⟨_, hK, rfl⟩)
    have hRR := R_of_blk (h1 := fun _ => rfl) h1' (base := w.heap.size) (by omega) (by rw [plAt_len]; unfold maxLen; omega)
    rw [plAt_len] at hRR
    exact ⟨.tuple #[.slice (some ⟨w.heap.size + 1, 0, none⟩) l0.length l0.length, .bool true], by simp [results, Try.f15, go_sem], _, rfl, hRR, hB.trans (belowK_b (w := w) (Nat.le_refl _) W D _ _ (by omega) hK rfl rfl)⟩
  case stop =>
    rintro D c pre W _ _ h _
    exact h.elim

set_option maxRecDepth 100000 in
set_option maxHeartbeats 2000000 in
theorem shape_Place.calls_no1 (k : Nat) (A0 : Option Addr) (c0 : Nat) (l0 : List Int) (a1 m e0 : Int) (w : World) (hr0 : Kd.C (Kd.int .i64) w A0 l0.length l0) (hc0 : l0.length ≤ c0)
    (hs : K.shape_Size.f k l0 = some (m, e0)) (h1 : e0 ≠ 0) :
    Calls Try.prog 15 #[.slice A0 l0.length c0, .int .i64 a1] w fun e w' => e = .returned (.tuple #[.slice none 0 0, .bool false]) ∧ Below w.heap.size w w' := by
  have HR0 := Aside0.mk hr0
  have HS := Aside0.mk hs
  clear hr0 hs
  have b1 : (e0 != 0) = true := bne_iff_ne.mpr h1; have b2 : (e0 == 0) = false := beq_eq_false_iff_ne.mpr h1; clear h1
  go_enter Try.func15, Try.ntmps15
  go_wp2_with (go_at_call 10; refine (K.shape_Size.calls k _ _ l0 m _ _ (by repeat (first | exact HR0.out | (with_reducible refine Kd.C_alloc ?_ _))) hc0 HS.out).mono ?_; rintro e w' ⟨rfl, ⟨nd, rfl⟩⟩)
  go_ret2
  exact ⟨rfl, pw_below_drewN ((Below.refl _ w).alloc (Nat.le_refl _) _) nd⟩

set_option maxRecDepth 100000 in
set_option maxHeartbeats 2000000 in
theorem shape_Place.calls_no2 (k : Nat) (A0 : Option Addr) (c0 : Nat) (l0 : List Int) (a1 m e0 : Int) (w : World) (hr0 : Kd.C (Kd.int .i64) w A0 l0.length l0) (hc0 : l0.length ≤ c0)
    (hs : K.shape_Size.f k l0 = some (m, e0)) (h0 : e0 = 0) (h1 : a1 < 0) :
    Calls Try.prog 15 #[.slice A0 l0.length c0, .int .i64 a1] w fun e w' => e = .returned (.tuple #[.slice none 0 0, .bool false]) ∧ Below w.heap.size w w' := by
  have HR0 := Aside0.mk hr0
  have HS := Aside0.mk hs
  clear hr0 hs
  subst h0
  go_enter Try.func15, Try.ntmps15
  go_wp2_with (go_at_call 10; refine (K.shape_Size.calls k _ _ l0 m _ _ (by repeat (first | exact HR0.out | (with_reducible refine Kd.C_alloc ?_ _))) hc0 HS.out).mono ?_; rintro e w' ⟨rfl, ⟨nd, rfl⟩⟩)
  go_ret2
  exact ⟨rfl, pw_below_drewN ((Below.refl _ w).alloc (Nat.le_refl _) _) nd⟩

set_option maxRecDepth 100000 in
set_option maxHeartbeats 2000000 in
theorem shape_Place.calls_no3 (k : Nat) (A0 : Option Addr) (c0 : Nat) (l0 : List Int) (a1 m e0 : Int) (w : World) (hr0 : Kd.C (Kd.int .i64) w A0 l0.length l0) (hc0 : l0.length ≤ c0)
    (hs : K.shape_Size.f k l0 = some (m, e0)) (h0 : e0 = 0) (h1 : 0 ≤ a1) (h2 : m ≤ a1) :
    Calls Try.prog 15 #[.slice A0 l0.length c0, .int .i64 a1] w fun e w' => e = .returned (.tuple #[.slice none 0 0, .bool false]) ∧ Below w.heap.size w w' := by
  have HR0 := Aside0.mk hr0
  have HS := Aside0.mk hs
  clear hr0 hs
  subst h0
  go_enter Try.func15, Try.ntmps15
  go_wp2_with (go_at_call 10; refine (K.shape_Size.calls k _ _ l0 m _ _ (by repeat (first | exact HR0.out | (with_reducible refine Kd.C_alloc ?_ _))) hc0 HS.out).mono ?_; rintro e w' ⟨rfl, ⟨nd, rfl⟩⟩)
  go_ret2
  exact ⟨rfl, pw_below_drewN ((Below.refl _ w).alloc (Nat.le_refl _) _) nd⟩

theorem shape_Place.calls (k : Nat) (A0 : Option Addr) (c0 : Nat) (l0 : List Int) (a1 : Int) (r1 : List Int) (r2 : Bool) (w : World) (hr0 : Kd.C (Kd.int .i64) w A0 l0.length l0) (hc0 : l0.length ≤ c0) (h : shape_Place.f k l0 a1 = some (r1, r2)) :
    Calls Try.prog 15 #[.slice A0 l0.length c0, .int .i64 a1] w fun e w' => ∃ v0_ : Value, e = .returned (.tuple #[v0_, .bool r2]) ∧ Kd.R (Kd.int .i64) 3 w' w.heap.size (fun _ => True) v0_ r1 ∧ Below w.heap.size w w' := by
  unfold shape_Place.f at h
  obtain ⟨⟨m, e0⟩, hs, h⟩ := Option.bind_eq_some_iff.mp h
  dsimp only at h
  have no : ∀ {Q : Prop}, (Q → Calls Try.prog 15 #[.slice A0 l0.length c0, .int .i64 a1] w fun e w' => e = .returned (.tuple #[.slice none 0 0, .bool false]) ∧ Below w.heap.size w w') → Q → (([] : List Int), false) = (r1, r2) → Calls Try.prog 15 #[.slice A0 l0.length c0, .int .i64 a1] w fun e w' => ∃ v0_ : Value, e = .returned (.tuple #[v0_, .bool r2]) ∧ Kd.R (Kd.int .i64) 3 w' w.heap.size (fun _ => True) v0_ r1 ∧ Below w.heap.size w w' := by
    intro Q hc hq he
    simp only [Prod.mk.injEq] at he
    obtain ⟨rfl, rfl⟩ := he
    exact (hc hq).mono fun e w' ⟨he, hb⟩ => ⟨_, he, Kd.R_nil _ _ _ _ _, hb⟩
  split at h
  · rename_i h0
    split at h
    · rename_i h1
      exact no (fun h1 => shape_Place.calls_no2 k A0 c0 l0 a1 m e0 w hr0 hc0 hs h0 h1) h1 (Option.some.inj h)
    · rename_i h1
      split at h
      · rename_i h2
        exact no (fun h2 => shape_Place.calls_no3 k A0 c0 l0 a1 m e0 w hr0 hc0 hs h0 (by omega) h2) h2 (Option.some.inj h)
      · rename_i h2
        split at h
        · cases h
        · rename_i h3
          simp only [Option.some.injEq, Prod.mk.injEq] at h
          obtain ⟨rfl, rfl⟩ := h
          subst h0
          exact shape_Place.calls_yes k A0 c0 l0 a1 m w hr0 hc0 hs (by omega) (by omega) (fun n hn he => h3 (.inl ⟨n, hn, he⟩)) (by omega)
  · rename_i h0
    exact no (fun h0 => shape_Place.calls_no1 k A0 c0 l0 a1 m e0 w hr0 hc0 hs h0) h0 (Option.some.inj h)
theorem shape_Place.mono : ∀ a0 a1 k, LeO (shape_Place.f k a0 a1) (shape_Place.f (k + 1) a0 a1) := by
  intro a0 a1 k
  unfold shape_Place.f
  refine LeO.bind (K.shape_Size.mono _ _) (fun _ => LeO.refl _)

end Go.Proofs.Ytjhdnaahmiiegaa.Hd
