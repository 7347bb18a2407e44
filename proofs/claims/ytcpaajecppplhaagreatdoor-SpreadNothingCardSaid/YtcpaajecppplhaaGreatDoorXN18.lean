/- What the law leans on, part 19: declarations of several texts of ours, in their order. -/
import Derived.Test.YtcpaajecppplhaaGreatDoorXN16
import Derived.Test.YtcpaajecppplhaaGreatDoorXN17
import Derived.Shelf.Spec.SlicesInsertGrow
section
/- slices.Insert of a part ahead of all others, num.trim and num.less, told with whose row it is that they hand back. -/
namespace Go.Proofs.YtcpaajecppplhaaGreatDoor.Hd
open Go.RowKit Go.Proofs.YtcpaajecppplhaaGreatDoorW.PrintWords Go.Proofs.YtcpaajecppplhaaGreatDoorW.PrintLast Go.Proofs.YtcpaajecppplhaaGreatDoorW.PrintMore Go.Proofs.YtcpaajecppplhaaGreatDoor.B Go.Lib Go.Shelf
set_option linter.unusedVariables false
set_option linter.unusedSimpArgs false
theorem reps_nums (xs : List Int) : Reps (fun (x : Int) cs => cs = [Value.int .u64 x]) 1 xs (nums .u64 xs) := ⟨by simp [nums], fun j p h => by
  have h1 : (nums .u64 xs)[j]? = some (.int .u64 p) := by simp [nums, h]
  obtain ⟨hj, e⟩ := List.getElem?_eq_some_iff.1 h1
  rw [Nat.mul_one, List.drop_eq_getElem_cons hj, e]
  rfl⟩
theorem reps_eq {xs : List Int} {cs : List Value} (h : Reps (fun (x : Int) cs => cs = [Value.int .u64 x]) 1 xs cs) : cs = nums .u64 xs := by
  apply List.ext_getElem?
  intro j
  have hl : cs.length = xs.length := by rw [h.1, Nat.mul_one]
  by_cases hj : j < xs.length
  · have h2 := h.2 j xs[j] (List.getElem?_eq_getElem hj)
    rw [Nat.mul_one, List.drop_eq_getElem_cons (by omega), List.take_succ_cons, List.take_zero] at h2
    rw [List.getElem?_eq_getElem (by omega), (List.cons.inj h2).1]
    simp [nums, hj]
  · rw [List.getElem?_eq_none (by omega), List.getElem?_eq_none (by simp [nums]; omega)]
theorem R_of_own {w : World} {B : Nat} {ok : Nat → Prop} {v : Value} {xs : List Int} (h : w.ownsRow B 188 1 v xs.length (nums .u64 xs)) (hok : ∀ k, v.ownBlock = some k → ok k) : Kd.R (Kd.int .u64) 188 w B ok v xs := ⟨hok, nums .u64 xs, h, reps_nums xs⟩
theorem own_of_R {w : World} {B : Nat} {ok : Nat → Prop} {v : Value} {xs : List Int} (h : Kd.R (Kd.int .u64) 188 w B ok v xs) : w.ownsRow B 188 1 v xs.length (nums .u64 xs) := by
  obtain ⟨_, inner, ho, hr⟩ := h
  rw [← reps_eq hr]
  exact ho
theorem setCells_other (g i : Nat) (hi : i ≠ g) : ∀ (vs : List Value) (o : Nat) (w : World), (w.setCells g o vs).heap[i]? = w.heap[i]?
  | [], _, _ => rfl
  | v :: r, o, w => (setCells_other g i hi r (o + 1) (w.setCell ⟨g, o, none⟩ v)).trans (Below.heap_setCell w ⟨g, o, none⟩ v i hi)
theorem setCells_grown (w : World) (g o : Nat) (vs : List Value) : w.grownBy (w.setCells g o vs) (some g) :=
  ⟨(setCells_same g vs o w).1, (setCells_same g vs o w).2.1, (setCells_same g vs o w).2.2.1, by rw [(setCells_same g vs o w).2.2.2]; exact Nat.le_refl _, fun k hk hne => setCells_other g k (fun e => hne (by rw [e])) vs o w⟩
theorem setCells_row (g t : Nat) : ∀ (vs : List Value) (o : Nat) (w : World) (cur : Array Value), w.heap[g]? = some (.cells cur t (0, 0)) →
    ∃ cur', (w.setCells g o vs).heap[g]? = some (.cells cur' t (0, 0)) ∧ cur'.size = cur.size ∧ ∀ j, j < cur.size → cur'[j]? = if o ≤ j ∧ j < o + vs.length then vs[j - o]? else cur[j]?
  | [], o, w, cur, h => ⟨cur, h, rfl, fun j _ => by rw [if_neg (by rw [List.length_nil]; omega)]⟩
  | v :: r, o, w, cur, h => by
    obtain ⟨cur', h1, h2, h3⟩ := setCells_row g t r (o + 1) (w.setCell ⟨g, o, none⟩ v) (cur.setIfInBounds o v) (blk_put h o v rfl)
    refine ⟨cur', h1, by rw [h2]; simp, fun j hj => ?_⟩
    rw [h3 j (by simpa using hj)]
    by_cases e : j = o
    · subst e
      rw [if_neg (by omega), if_pos (by simp), Array.getElem?_setIfInBounds_self_of_lt hj]
      simp
    · rw [Array.getElem?_setIfInBounds_ne (fun h => e h.symm)]
      by_cases hc : o + 1 ≤ j ∧ j < o + 1 + r.length
      · rw [if_pos hc, if_pos (by simp only [List.length_cons]; omega), show j - o = (j - (o + 1)) + 1 by omega, List.getElem?_cons_succ]
      · rw [if_neg hc, if_neg (by simp only [List.length_cons]; omega)]
end Go.Proofs.YtcpaajecppplhaaGreatDoor.Hd
end
section
/- slices.Insert of a part ahead of all others: in place where there is room, else in a new row. -/
namespace Go.Proofs.YtcpaajecppplhaaGreatDoor.Hd
open Go.RowKit Go.Proofs.YtcpaajecppplhaaGreatDoorW.PrintWords Go.Proofs.YtcpaajecppplhaaGreatDoorW.PrintLast Go.Proofs.YtcpaajecppplhaaGreatDoorW.PrintMore Go.Proofs.YtcpaajecppplhaaGreatDoor.B Go.Lib Go.Shelf
set_option linter.unusedVariables false
set_option linter.unusedSimpArgs false
theorem size_of_u64 (w : World) : (Go.sizeOf 188).run Tryz.prog w = .ok 1 w := by
  obtain ⟨i0, hi0, _, hz, _⟩ := info_parts info188
  simp [Go.sizeOf, hi0, hz, go_sem]
  rfl
set_option maxHeartbeats 4000000 in
set_option maxRecDepth 100000 in
theorem insert_shift (g n c vb : Nat) (x : Int) (cs : List Value) (w : World) (hn : 0 < n) (hroom : n + 1 ≤ c) (hc63 : c ≤ 9223372036854775807) (hvb : vb ≠ g) (hcl : cs.length = n)
    (hcs : ∀ j v, cs[j]? = some v → w.cell? ⟨g, j, none⟩ = some v) (hsp : ∀ j, j < n + 1 → (w.cell? ⟨g, j, none⟩).isSome = true) (hfz : ∀ j, w.frozen? ⟨g, j, none⟩ = false)
    (hvs : w.heap[vb]? = some (.cells #[.int .u64 x] 188 (0, 0))) (h1c : ∀ v ∈ cs, v.oneCell' = true) (kB : Nat) (hsb : w.shape? g = some (188, kB)) (hkB : kB ≠ 0) :
    Calls Tryz.prog 225 #[.slice (some ⟨g, 0, none⟩) n c, .int .i64 0, .slice (some ⟨vb, 0, none⟩) 1 1] w fun e w' =>
      e = .returned (.slice (some ⟨g, 0, none⟩) (n + 1) c) ∧ w' = (w.drew.setCells g 1 cs).setCells g 0 [.int .u64 x] := by
  obtain ⟨i0, hi0, _, hz0, _⟩ := info_parts info188
  have hsz : (Tryz.prog.info? 188).map (·.size) = some 1 := by rw [hi0]; simp [hz0]
  have hsa : w.shape? vb = some (188, 1) := by simp [World.shape?, hvs]
  have hfa : ∀ j, w.frozen? ⟨vb, j, none⟩ = false := fun j => by simp [World.frozen?, hvs]
  have hz2 : ((0 : Int) == (n : Int)) = false := beq_eq_false_iff_ne.mpr (by omega)
  have hz3 : ¬ ((0 : Int) = (n : Int)) := by omega
  have hov : ∀ lb cb, (callFunc 251 #[.slice (some ⟨vb, 0, none⟩) 1 1, .slice (some ⟨g, 1, none⟩) lb cb]).run Tryz.prog w = .ok (.value (.bool false)) w := fun lb cb => by
    rw [run_callFunc_extern Tryz.func251 (by kernel_rfl) (by kernel_rfl) (by kernel_rfl) (e := Extern.SlicesOverlaps.overlaps #[158, 158] #[4]) (by kernel_rfl),
      Lib.run_overlaps_apart w 158 4 188 Tryz.underlying158 1 size_of_u64 ⟨vb, 0, none⟩ ⟨g, 1, none⟩ 1 1 lb cb hvb 188 188 1 kB hsa hsb hkB (hfa 0) (hfa 1)]
    rfl
  have hcp1 : ∀ ty dc sc, (Builtin.copy_ #[159, 159] ty #[.slice (some ⟨g, 1, none⟩) n dc, .slice (some ⟨g, 0, none⟩) (n + 1) sc]).run Tryz.prog w.drew = .ok (goInt cs.length) (w.drew.setCells g 1 cs) := fun ty dc sc =>
    run_copy_cells w.drew _ _ ty 188 g 1 n dc ⟨g, 0, none⟩ (n + 1) sc cs Tryz.underlying159 hsz (by rw [hcl]; simp only [Nat.min_def]; split <;> omega)
      (fun j v hj => by rw [Addr.add_lit, Nat.zero_add]; exact hcs j v hj)
      (fun j hj => hsp (1 + j) (by omega)) (fun j hj => hfz _) h1c
  obtain ⟨W1, hW1⟩ : ∃ W1, W1 = w.drew.setCells g 1 cs := ⟨_, rfl⟩
  have hsp1 : ∀ k, k < n + 1 → (W1.cell? ⟨g, k, none⟩).isSome = true := fun k hk => by
    rw [hW1]
    exact isSome_setCells g cs 1 w.drew (fun j hj => hsp (1 + j) (by omega)) _ (hsp k hk)
  have hcp2 : ∀ (W : World), (∀ x, W.cell? x = W1.cell? x) → (∀ x, W.frozen? x = W1.frozen? x) → ∀ ty dc, (Builtin.copy_ #[159, 158] ty #[.slice (some ⟨g, 0, none⟩) (n + 1) dc, .slice (some ⟨vb, 0, none⟩) 1 1]).run Tryz.prog W = .ok (goInt 1) (W.setCells g 0 [.int .u64 x]) := fun W hWc hWf ty dc =>
    run_copy_cells W _ _ ty 188 g 0 (n + 1) dc ⟨vb, 0, none⟩ 1 1 [.int .u64 x] Tryz.underlying159 hsz (by simp only [List.length_cons, List.length_nil, Nat.min_def]; split <;> omega)
      (fun j v hj => by
        rw [Addr.add_lit, hWc, hW1, World.cell?_setCells_out g _ _ _ _ (fun h _ => absurd h hvb)]
        cases j with
        | zero => simp at hj; subst hj; show w.cell? _ = _; simp [World.cell?, hvs]
        | succ j => simp at hj)
      (fun j hj => by rw [hWc]; exact hsp1 _ (by simp at hj; omega)) (fun j hj => by rw [hWf, hW1, World.frozen?_setCells]; exact hfz _) (fun v hv => by simp at hv; subst hv; rfl)
  rw [← hW1] at hcp1
  have hw1 : IntKind.i64.wrap ((n : Int) + 1) = (n : Int) + 1 := by rw [IntKind.wrap_i64]; have : (n : Int) + 1 ≤ 9223372036854775807 := by omega
                                                                    omega
  have mixed : Tryz.prog.follows .mixedOrders = true := by kernel_rfl
  have hwr : IntKind.i64.wrap 1 = 1 := by decide
  have hb2 : ¬ (c = 1) := by omega
  have hb3 : (1 : Int) ≤ (n : Int) + 1 := by omega
  have hb4 : (0 : Int) ≤ 1 := by omega
  have hb5 : (0 : Int) ≤ (n : Int) + 1 := by omega
  have ht1 : (1 : Int).toNat = 1 := rfl
  go_enter Tryz.func225, Tryz.ntmps225
  go_wp2_with (simp only [hov])
  go_region_law_o (refine step_copy_runI rfl _ _ 159 159 rfl _ _ (by simp [Act.eval, Act.put]) (by simp [Act.eval, Act.put]) (hcp1 _ _ _) ?_)
  go_wp2_with (at_builtin; refine wpList_copy_runI _ rfl _ _ 159 158 rfl _ _ rfl rfl (hcp2 _ (fun _ => rfl) (fun _ => rfl) _ _) ?_)
  go_ret
  first | exact ⟨rfl, rfl⟩ | exact ⟨rfl, by rw [hW1]⟩
set_option maxHeartbeats 4000000 in
set_option maxRecDepth 100000 in
theorem insert_first_room (g c vb : Nat) (x : Int) (w : World) (hroom : 1 ≤ c) (hc63 : c ≤ 9223372036854775807)
    (hsp : (w.cell? ⟨g, 0, none⟩).isSome = true) (hfz : w.frozen? ⟨g, 0, none⟩ = false) (hvs : w.heap[vb]? = some (.cells #[.int .u64 x] 188 (0, 0))) :
    Calls Tryz.prog 225 #[.slice (some ⟨g, 0, none⟩) 0 c, .int .i64 0, .slice (some ⟨vb, 0, none⟩) 1 1] w fun e w' =>
      e = .returned (.slice (some ⟨g, 0, none⟩) 1 c) ∧ w' = w.setCells g 0 [.int .u64 x] := by
  have hvc : w.cell? ⟨vb, 0, none⟩ = some (.int .u64 x) := by simp [World.cell?, hvs]
  have hsrc : Src Tryz.prog 1 158 (.slice (some ⟨vb, 0, none⟩) 1 1) 1 [.int .u64 x] w := Src.ofSlice w Tryz.underlying158 ⟨vb, 0, none⟩ 1 1 [.int .u64 x] (by simp) (fun j u hj => by
      rw [Addr.add_lit]
      cases j with
      | zero => simp at hj; subst hj; exact hvc
      | succ j => simp at hj) (fun v hv => by simp at hv; subst hv; rfl)
  go_enter Tryz.func225, Tryz.ntmps225
  go_wp2_with (at_builtin; refine wpList_append_room1 _ rfl _ _ 159 158 rfl 188 _ _ Tryz.underlying159 info188 g 0 0 c rfl _ rfl 1 [.int .u64 x] hsrc (by omega) (fun j hj => by simp at hj; subst hj; exact hsp) (fun j hj => by simp at hj; subst hj; exact hfz) ?_)
  go_ret
  exact ⟨rfl, rfl⟩
set_option maxHeartbeats 4000000 in
set_option maxRecDepth 100000 in
theorem insert_first_grow (base : Option Addr) (vb : Nat) (x : Int) (w : World) (hvs : w.heap[vb]? = some (.cells #[.int .u64 x] 188 (0, 0))) :
    Calls Tryz.prog 225 #[.slice base 0 0, .int .i64 0, .slice (some ⟨vb, 0, none⟩) 1 1] w fun e w' =>
      e = .returned (.slice (some ⟨w.heap.size, 0, none⟩) 1 (grownCap w 1 0 188)) ∧
      w' = w.drew.alloc (.cells (#[.int .u64 x] ++ Builtin.zeroCells (Value.int .u64 0).cells (grownCap w 1 0 188 - 1)) 188) := by
  obtain ⟨i0, hi0, hz0, hzs, hzb⟩ := info_parts info188
  have hvc : w.cell? ⟨vb, 0, none⟩ = some (.int .u64 x) := by simp [World.cell?, hvs]
  have hsrc : Src Tryz.prog i0.size 158 (.slice (some ⟨vb, 0, none⟩) 1 1) 1 [.int .u64 x] w := by
    rw [hzs]
    exact Src.ofSlice w Tryz.underlying158 ⟨vb, 0, none⟩ 1 1 [.int .u64 x] (by simp) (fun j u hj => by
      rw [Addr.add_lit]
      cases j with
      | zero => simp at hj; subst hj; exact hvc
      | succ j => simp at hj) (fun v hv => by simp at hv; subst hv; rfl)
  have hold : (Builtin.firstCells i0.size 0 (.slice base 0 0)).run Tryz.prog w.drew = .ok ([] : List Value).toArray w.drew := by
    rw [hzs]
    cases base with
    | none => exact run_firstCells_none w.drew 1 0 0 0
    | some a => exact run_firstCells_some w.drew 1 0 a 0 0 [] (by simp) (fun j v hj => by simp at hj)
  have hrun : ∀ ty, (Builtin.append_ #[159, 158] ty #[.slice base 0 0, .slice (some ⟨vb, 0, none⟩) 1 1]).run Tryz.prog w = _ := fun ty =>
    run_append_grow_src w 159 158 ty 188 i0 _ Tryz.underlying159 hi0 hz0 base 0 0 [] hold _ 1 [.int .u64 x] hsrc (by omega) (by omega) (by rw [hzb]; exact growslice_fits (by omega) (by omega))
  go_enter Tryz.func225, Tryz.ntmps225
  cases base with
  | none =>
    go_wp2_with (at_builtin; refine Lib.wpList_append_run _ rfl _ _ _ _ rfl _ _ rfl rfl _ _ (hrun _) ?_)
    go_ret
    exact ⟨rfl, rfl⟩
  | some a =>
    obtain ⟨ab, ao, asp⟩ := a
    go_wp2_with (at_builtin; refine Lib.wpList_append_run _ rfl _ _ _ _ rfl _ _ rfl rfl _ _ (hrun _) ?_)
    all_goals (go_ret; exact ⟨rfl, rfl⟩)
set_option maxHeartbeats 4000000 in
set_option maxRecDepth 100000 in
theorem insert_grow (g n c vb : Nat) (x : Int) (cs : List Value) (w : World) (hn : 0 < n) (hnc : n ≤ c) (hroom : c < n + 1) (hbig : (n + 1) * 8 ≤ 140737488355328) (hcl : cs.length = n)
    (hcs : ∀ j v, cs[j]? = some v → w.cell? ⟨g, j, none⟩ = some v) (hvs : w.heap[vb]? = some (.cells #[.int .u64 x] 188 (0, 0))) (h1c : ∀ v ∈ cs, v.oneCell' = true) :
    Calls Tryz.prog 225 #[.slice (some ⟨g, 0, none⟩) n c, .int .i64 0, .slice (some ⟨vb, 0, none⟩) 1 1] w fun e w' =>
      e = .returned (.slice (some ⟨w.heap.size, 0, none⟩) (n + 1) (grownCap w (n + 1) c 188)) ∧
      w' = (((w.alloc (.cells (Builtin.zeroCells (Value.int .u64 0).cells (n + 1) ++ Builtin.zeroCells (Value.int .u64 0).cells (grownCap w (n + 1) c 188 - (n + 1))) 188)).drew.setCells w.heap.size 0 [.int .u64 x]).drew).setCells w.heap.size 1 cs := by
  obtain ⟨i0, hi0, hz0, hzs, hzb⟩ := info_parts info188
  have hsz : (Tryz.prog.info? 188).map (·.size) = some 1 := by rw [hi0]; simp [hzs]
  have hbw : g < w.heap.size := block_lt_of_cell (hcs 0 _ (List.getElem?_eq_getElem (by omega)))
  have hvw : vb < w.heap.size := (Array.getElem?_eq_some_iff.1 hvs).1
  have hvc : w.cell? ⟨vb, 0, none⟩ = some (.int .u64 x) := by simp [World.cell?, hvs]
  have hold : (Builtin.firstCells i0.size 0 (.slice (some ⟨g, 0, none⟩) 0 c)).run Tryz.prog w.drew = .ok ([] : List Value).toArray w.drew := by
    rw [hzs]
    exact run_firstCells_some w.drew 1 0 ⟨g, 0, none⟩ 0 c [] (by simp) (fun j v hj => by simp at hj)
  have hkk : (n : Int) + 1 - 0 = ((n + 1 : Nat) : Int) := by omega
  have hrz : ∀ ty, (Builtin.append_ #[159, 3] ty #[.slice (some ⟨g, 0, none⟩) 0 c, .int .i64 ((n : Int) + 1)]).run Tryz.prog w =
      .ok (.slice (some ⟨w.heap.size, 0, none⟩) (n + 1) (grownCap w (n + 1) c 188)) (w.drew.alloc (.cells (Builtin.zeroCells (Value.int .u64 0).cells (n + 1) ++ Builtin.zeroCells (Value.int .u64 0).cells (grownCap w (n + 1) c 188 - (n + 1))) 188)) := fun ty => by
    have h := Lib.run_append_grow_zeros w 159 3 ty 188 i0 _ .i64 .i64 Tryz.underlying159 Tryz.underlying3 hi0 hz0 (some ⟨g, 0, none⟩) 0 c [] hold (n + 1) (by omega) (by omega) (by omega) (by omega) (by rw [hzb]; omega) (by rw [hzb, Nat.zero_add]; exact growslice_fits hroom hbig)
    rw [Nat.zero_add] at h
    simpa using h
  obtain ⟨G, hG⟩ : ∃ G, G = grownCap w (n + 1) c 188 := ⟨_, rfl⟩
  obtain ⟨ROW, hROW⟩ : ∃ ROW : Array Value, ROW = Builtin.zeroCells (Value.int .u64 0).cells (n + 1) ++ Builtin.zeroCells (Value.int .u64 0).cells (G - (n + 1)) := ⟨_, rfl⟩
  rw [← hG] at hrz ⊢
  rw [← hROW] at hrz ⊢
  have hRl : n + 1 ≤ ROW.size := by
    rw [hROW]
    simp [Builtin.zeroCells, Value.cells]
    try omega
  obtain ⟨W1, hW1⟩ : ∃ W1, W1 = w.drew.alloc (.cells ROW 188) := ⟨_, rfl⟩
  rw [← hW1] at hrz
  have hN : ∀ j, j < n + 1 → (W1.cell? ⟨w.heap.size, j, none⟩).isSome = true := fun j hj => by
    rw [hW1, World.cell?_alloc_at (w := w.drew) ROW _ w.heap.size j rfl, Array.getElem?_eq_getElem (by omega)]; rfl
  have hNf : ∀ j, W1.frozen? ⟨w.heap.size, j, none⟩ = false := fun j => by rw [hW1]; exact World.frozen?_alloc_at (w := w.drew) ROW _ w.heap.size j rfl
  have hOb : ∀ j v, w.cell? ⟨g, j, none⟩ = some v → W1.cell? ⟨g, j, none⟩ = some v := fun j v h => by rw [hW1, World.cell?_alloc_past (w := w.drew) _ g j hbw]; exact h
  have hOv : W1.cell? ⟨vb, 0, none⟩ = some (.int .u64 x) := by rw [hW1, World.cell?_alloc_past (w := w.drew) _ vb 0 hvw]; exact hvc
  have hcpA : ∀ (W : World), (∀ x, W.cell? x = W1.cell? x) → (∀ x, W.frozen? x = W1.frozen? x) → ∀ ty dc, (Builtin.copy_ #[159, 158] ty #[.slice (some ⟨w.heap.size, 0, none⟩) (n + 1) dc, .slice (some ⟨vb, 0, none⟩) 1 1]).run Tryz.prog W = .ok (goInt 1) (W.setCells w.heap.size 0 [.int .u64 x]) := fun W hWc hWf ty dc =>
    run_copy_cells W _ _ ty 188 w.heap.size 0 (n + 1) dc ⟨vb, 0, none⟩ 1 1 [.int .u64 x] Tryz.underlying159 hsz (by simp only [List.length_cons, List.length_nil, Nat.min_def]; split <;> omega)
      (fun j v hj => by
        rw [Addr.add_lit, hWc]
        cases j with
        | zero => simp at hj; subst hj; exact hOv
        | succ j => simp at hj)
      (fun j hj => by rw [hWc]; exact hN _ (by simp at hj; omega)) (fun j hj => by rw [hWf]; exact hNf _) (fun v hv => by simp at hv; subst hv; rfl)
  have hGn : n + 1 ≤ G := by rw [hG]; exact grownCap_ge w _ _ _
  have hG63 : G ≤ 9223372036854775807 := by
    have := grownCap_le_maxLen w (n + 1) c 188 (by unfold maxLen; omega)
    rw [← hG] at this
    unfold maxLen at this
    omega
  have hGi : ¬ (G = 0) := by omega
  have hGim : ¬ (G = 1) := by omega
  have hci : ¬ (c = 0) := by omega
  have hbN : g ≠ w.heap.size := by omega
  have hcpB : ∀ (W : World), (∀ y, W.cell? y = (W1.setCells w.heap.size 0 [.int .u64 x]).cell? y) → (∀ y, W.frozen? y = (W1.setCells w.heap.size 0 [.int .u64 x]).frozen? y) → ∀ ty dc sc, (Builtin.copy_ #[159, 159] ty #[.slice (some ⟨w.heap.size, 1, none⟩) n dc, .slice (some ⟨g, 0, none⟩) n sc]).run Tryz.prog W = .ok (goInt cs.length) (W.setCells w.heap.size 1 cs) := fun W hWc hWf ty dc sc =>
    run_copy_cells W _ _ ty 188 w.heap.size 1 n dc ⟨g, 0, none⟩ n sc cs Tryz.underlying159 hsz (by rw [hcl]; simp only [Nat.min_def]; split <;> omega)
      (fun j v hj => by
        rw [Addr.add_lit, hWc, World.cell?_setCells_out _ _ _ _ _ (fun h _ => absurd h hbN), Nat.zero_add]
        exact hOb _ v (hcs j v hj))
      (fun j hj => by rw [hWc]; exact isSome_setCells w.heap.size [.int .u64 x] 0 W1 (fun t ht => hN _ (by simp at ht; omega)) _ (hN (1 + j) (by omega)))
      (fun j hj => by rw [hWf, World.frozen?_setCells]; exact hNf _) h1c
  subst hW1
  have hE1 : ∀ x, ((w.alloc (.cells ROW 188)).drew).cell? x = (w.drew.alloc (.cells ROW 188)).cell? x := fun x => rfl
  have hE2 : ∀ x, ((w.alloc (.cells ROW 188)).drew).frozen? x = (w.drew.alloc (.cells ROW 188)).frozen? x := fun x => rfl
  have hF1 : ∀ y, (((w.alloc (.cells ROW 188)).drew.setCells w.heap.size 0 [.int .u64 x]).drew).cell? y = ((w.drew.alloc (.cells ROW 188)).setCells w.heap.size 0 [.int .u64 x]).cell? y := fun x => rfl
  have hF2 : ∀ y, (((w.alloc (.cells ROW 188)).drew.setCells w.heap.size 0 [.int .u64 x]).drew).frozen? y = ((w.drew.alloc (.cells ROW 188)).setCells w.heap.size 0 [.int .u64 x]).frozen? y := fun x => rfl
  have hw1 : IntKind.i64.wrap ((n : Int) + 1) = (n : Int) + 1 := by rw [IntKind.wrap_i64]; have : (n : Int) + 1 ≤ 9223372036854775807 := by omega
                                                                    omega
  have hz2 : ((0 : Int) == (n : Int)) = false := beq_eq_false_iff_ne.mpr (by omega)
  have hz3 : ¬ ((0 : Int) = (n : Int)) := by omega
  have mixed : Tryz.prog.follows .mixedOrders = true := by kernel_rfl
  have hwr : IntKind.i64.wrap 1 = 1 := by decide
  have hb3 : (1 : Int) ≤ (n : Int) + 1 := by omega
  have hb4 : (0 : Int) ≤ 1 := by omega
  have hb5 : (0 : Int) ≤ (n : Int) := by omega
  have hb6 : (0 : Int) ≤ (n : Int) + 1 := by omega
  have ht1 : (1 : Int).toNat = 1 := rfl
  clear hkk hold hROW hG hRl
  go_enter Tryz.func225, Tryz.ntmps225
  go_wp2_with (first
    | (at_builtin; refine Lib.wpList_append_run _ rfl _ _ _ _ rfl _ _ rfl rfl _ _ (hrz _) ?_)
    | (at_builtin; refine wpList_copy_runI _ rfl _ _ 159 158 rfl _ _ rfl rfl (hcpA _ hE1 hE2 _ _) ?_))
  go_region_law_o (refine step_copy_runI rfl _ _ 159 159 rfl (.slice (some ⟨w.heap.size, 1, none⟩) n (G - 1)) (.slice (some ⟨g, 0, none⟩) n c) (by simp [Act.eval, Act.put]) (by simp [Act.eval, Act.put]) (hcpB _ hF1 hF2 3 (G - 1) c) ?_)
  go_wp2
  go_ret
  exact ⟨rfl, rfl⟩
end Go.Proofs.YtcpaajecppplhaaGreatDoor.Hd
end
section
/- num.trim, num.less and slices.Insert, told with whose row it is that they hand back. -/
namespace Go.Proofs.YtcpaajecppplhaaGreatDoor.Hd
open Go.RowKit Go.Proofs.YtcpaajecppplhaaGreatDoorW.PrintWords Go.Proofs.YtcpaajecppplhaaGreatDoorW.PrintLast Go.Proofs.YtcpaajecppplhaaGreatDoorW.PrintMore Go.Proofs.YtcpaajecppplhaaGreatDoor.B Go.Lib Go.Shelf
set_option linter.unusedVariables false
set_option linter.unusedSimpArgs false
theorem R_cut {w : World} {B c m : Nat} {ok : Nat → Prop} {A : Option Addr} {xs : List Int} (h : Kd.R (Kd.int .u64) 188 w B ok (.slice A xs.length c) xs) (hm : m ≤ xs.length) : Kd.R (Kd.int .u64) 188 w B ok (.slice A (xs.take m).length c) (xs.take m) := by
  have h1 := own_of_R h
  refine R_of_own ?_ (fun k hk => h.1 k (by cases A <;> exact hk))
  have hl : (xs.take m).length = m := by rw [List.length_take]; omega
  refine ⟨by simp [nums], ?_⟩
  rcases h1.2 with ⟨e, e0⟩ | ⟨g, cap, cur, e, hg, hh, hn, hmx, hs, ht⟩
  · left
    injection e with e1 e2 e3
    subst e1 e3
    have : m = 0 := by omega
    subst this
    simp
  · right
    injection e with e1 e2 e3
    subst e1 e3
    refine ⟨g, c, cur, rfl, hg, hh, by omega, hmx, hs, ?_⟩
    rw [hl]
    have h2 : nums .u64 (xs.take m) = (nums .u64 xs).take m := by simp [nums, List.map_take]
    rw [h2, ← ht, List.take_take]
    congr 1
    omega
set_option maxHeartbeats 4000000 in
set_option maxRecDepth 100000 in
theorem trimR (k B : Nat) (ok : Nat → Prop) (A0 : Option Addr) (c0 : Nat) (l0 r : List Int) (w : World) (hR : Kd.R (Kd.int .u64) 188 w B ok (.slice A0 l0.length c0) l0) (h : Go.Proofs.YtcpaajecppplhaaGreatDoor.K.num_trim.f k l0 = some r) :
    Calls Tryz.prog 198 #[.slice A0 l0.length c0] w fun e w' => e = .returned (.slice A0 r.length c0) ∧ Kd.R (Kd.int .u64) 188 w B ok (.slice A0 r.length c0) r ∧ Drawn0 w w' := by
  have HR := Aside0.mk hR
  have H' := Aside0.mk (show Go.Proofs.YtcpaajecppplhaaGreatDoor.K.num_trim.l0 k l0 = some r from h)
  clear hR h
  go_enter Tryz.func198, Tryz.ntmps198
  go_wp2
  go_loopg [0] k (fun kq v0 w' => ∃ (x0_1 : List Int), v0 = .slice A0 x0_1.length c0 ∧ Aside0 (Go.Proofs.YtcpaajecppplhaaGreatDoor.K.num_trim.l0 kq x0_1 = some r) ∧ Aside0 (kq ≤ k) ∧ Aside0 (Kd.R (Kd.int .u64) 188 w B ok (.slice A0 x0_1.length c0) x0_1) ∧ Drawn0 w w')
  case atStart => exact ⟨l0, rfl, H', ⟨Nat.le_refl _⟩, HR, Drawn0.refl _⟩
  case round =>
    clear H' HR
    obtain ⟨x, rfl, HA, HK1, HX, ⟨m1, rfl⟩⟩ := hrel
    cases gk with
    | zero => exact absurd HA.out (by simp [Go.Proofs.YtcpaajecppplhaaGreatDoor.K.num_trim.l0])
    | succ k1 =>
      have H := HA.out
      clear HA
      simp only [Go.Proofs.YtcpaajecppplhaaGreatDoor.K.num_trim.l0] at H
      obtain ⟨A', c', e', hcl, hcr⟩ := Kd.R_reads HX.out
      injection e' with e1 e2 e3
      subst e1 e3
      have HCR := Aside0.mk hcr
      have hlen := hcr.2.1
      clear hcr e2
      by_cases c2 : (x.length : Int) > 0
      · rw [if_pos c2] at H
        have hw1 : wrap64 ((x.length : Int) - 1) = (x.length : Int) - 1 := by unfold wrap64; omega
        have hw2 : IntKind.i64.wrap ((x.length : Int) - 1) = (x.length : Int) - 1 := by rw [IntKind.wrap_i64]; omega
        rw [hw1, if_pos (by omega), if_pos (by omega)] at H
        obtain ⟨ad, e, hx0⟩ := Kd.at_int HCR.out ((x.length : Int) - 1) (by omega) (by omega)
        cases e
        have htn : ((x.length : Int) - 1).toNat = x.length - 1 := by omega
        rw [htn] at hx0
        obtain ⟨y, hy⟩ : ∃ y, y = rd x ((x.length : Int) - 1) := ⟨_, rfl⟩
        rw [← hy] at hx0 H
        have hlt : decide (0 < (x.length : Int)) = true := decide_eq_true (by omega)
        have hlt0 : (0 : Int) < (x.length : Int) := by omega
        have hb1 : (0 : Int) ≤ (x.length : Int) - 1 := by omega
        have hb2 : (x.length : Int) - 1 < (x.length : Int) := by omega
        have hb3 : (x.length : Int) - 1 ≤ (x.length : Int) := by omega
        clear hy
        by_cases c6 : y = 0
        · rw [if_pos c6, if_pos (by omega), htn] at H
          have hb : (y == 0) = true := beq_iff_eq.mpr c6
          have HX2 := Aside0.mk (R_cut HX.out (show x.length - 1 ≤ x.length by omega))
          have hl2 : (x.take (x.length - 1)).length = x.length - 1 := by rw [List.length_take]; omega
          obtain ⟨z, hz⟩ : ∃ z, z = x.take (x.length - 1) := ⟨_, rfl⟩
          rw [← hz] at H HX2 hl2
          have H' := Aside0.mk H
          have HL2 := Aside0.mk hl2
          have hb4 : x.length - 1 ≤ c0 := by omega
          clear H hz hl2
          go_wp2
          go_roundg k1
          case measure => have := HK1.out; omega
          case rel => exact ⟨z, by rw [HL2.out], H', ⟨by have := HK1.out; omega⟩, HX2, ⟨_, rfl⟩⟩
        · rw [if_neg c6] at H
          have hb : (y == 0) = false := beq_eq_false_iff_ne.mpr c6
          obtain rfl := Option.some.inj H
          clear H
          go_wp2
          go_ret
          exact ⟨rfl, HX.out, ⟨_, rfl⟩⟩
      · rw [if_neg c2] at H
        have hlt : decide (0 < (x.length : Int)) = false := decide_eq_false c2
        obtain rfl := Option.some.inj H
        clear H
        go_wp2
        go_ret
        exact ⟨rfl, HX.out, ⟨_, rfl⟩⟩
set_option maxHeartbeats 8000000 in
set_option maxRecDepth 100000 in
theorem lessR (k : Nat) (A0 : Option Addr) (c0 : Nat) (l0 : List Int) (A1 : Option Addr) (c1 : Nat) (l1 : List Int) (r : List Int) (w : World) (hr0 : Kd.C (Kd.int .u64) w A0 l0.length l0) (hc0 : l0.length ≤ c0) (hr1 : Kd.C (Kd.int .u64) w A1 l1.length l1) (hc1 : l1.length ≤ c1) (h : Go.Proofs.YtcpaajecppplhaaGreatDoor.K.num_less.f k l0 l1 = some r) :
    Calls Tryz.prog 196 #[.slice A0 l0.length c0, .slice A1 l1.length c1] w fun e w' => ∃ v0_ : Value, e = .returned (v0_) ∧ Kd.R (Kd.int .u64) 188 w' w.heap.size (fun k_ => (w.heap.size ≤ k_)) v0_ r ∧ Below w.heap.size w w' := by
  have HR0 := Aside0.mk hr0
  have HC0 := Aside0.mk hc0
  clear hr0 hc0
  have HR1 := Aside0.mk hr1
  have HC1 := Aside0.mk hc1
  clear hr1 hc1
  have HB := Aside0.mk (Below.refl w.heap.size w)
  have H : (Go.Proofs.YtcpaajecppplhaaGreatDoor.K.num_less.l0 k l0 l1 ([] : List Int) 0 (l0.length : Int) 0) = some r := h
  clear h
  have H' := Aside0.mk H
  clear H
  go_enter Tryz.func196, Tryz.ntmps196
  go_wp2
  repeat (go_quiet (fail); try go_wp2)
  go_loopg [5, 6, 11] k (fun kq v5 v6 v11 w' => ∃ (x5_1 : List Int) (x6_1 : Int) (x11_1 : Int), v6 = .int .u64 x6_1 ∧ v11 = .int .i64 x11_1 ∧ Aside0 (Go.Proofs.YtcpaajecppplhaaGreatDoor.K.num_less.l0 kq l0 l1 x5_1 x6_1 (l0.length : Int) x11_1 = some r) ∧ Aside0 (kq ≤ k) ∧ Aside0 (Kd.R (Kd.int .u64) 188 w' w.heap.size (fun k_ => (w.heap.size ≤ k_)) v5 x5_1) ∧ Aside0 (Below w.heap.size w w'))
  case atStart => exact ⟨(([] : List Int)), (0), (0), bkF, bkF, H', ⟨Nat.le_refl _⟩, ⟨by first | exact Kd.R_nil _ _ _ _ _ | exact Kd.N_nil _ _ _ _ _ | exact Kd.V_nil _ _ _ _ _ | exact Kd.Q_nil _ _ _ _ _ | exact Kd.S_nil _ _ _ _ _⟩, ⟨bkB⟩⟩
  case round =>
    clear H'
    try clear c1
    try clear p2
    obtain ⟨x5_1, x6_1, x11_1, rfl, rfl, HA, HK1, HO_5, HB⟩ := hrel
    cases gk with
    | zero => exact absurd HA.out (by simp [Go.Proofs.YtcpaajecppplhaaGreatDoor.K.num_less.l0])
    | succ k1 =>
      have H := HA.out
      clear HA
      simp only [Go.Proofs.YtcpaajecppplhaaGreatDoor.K.num_less.l0] at H
      by_cases c3 : x11_1 < (l0.length : Int)
      · rw [if_pos c3] at H
        have c3b0 : decide (x11_1 < (l0.length : Int)) = true := decide_eq_true c3
        clear c3
        by_cases c4 : 0 ≤ x11_1
        · rw [if_pos c4] at H
          have c4b0 : decide (0 ≤ x11_1) = true := decide_eq_true c4
          clear c4
          by_cases c5 : x11_1 < (l0.length : Int)
          · rw [if_pos c5] at H
            have c5b0 : decide (x11_1 < (l0.length : Int)) = true := decide_eq_true c5
            clear c5
            obtain ⟨t132, A60, H⟩ := Option.bind_eq_some_iff.mp H
            try dsimp only at H
            have A6 := Aside0.mk A60
            clear A60
            by_cases c7 : x5_1.length < 17592186044416
            · rw [if_pos c7] at H
              have LMc7 := Aside0.mk c7
              clear c7
              obtain ⟨y133, hy133⟩ : ∃ y_ : List Int, y_ = (x5_1 ++ [Int.tmod (IntKind.u64.wrap ((IntKind.u64.wrap ((IntKind.u64.wrap ((rd l0 x11_1) + 1000000000)) - t132)) - x6_1)) 1000000000]) := ⟨_, rfl⟩
              replace H : (Go.Proofs.YtcpaajecppplhaaGreatDoor.K.num_less.l0 k1 l0 l1 y133 (IntKind.u64.wrap (1 - (IntKind.u64.wrap (Int.tdiv (IntKind.u64.wrap ((IntKind.u64.wrap ((IntKind.u64.wrap ((rd l0 x11_1) + 1000000000)) - t132)) - x6_1)) 1000000000)))) (l0.length : Int) (wrap64 (x11_1 + 1))) = some r := by first | (rw [hy133]; with_reducible exact H) | (have H2_ := (Option.bind_some _ _).symm.trans H; rw [hy133]; with_reducible exact H2_) | (have H2_ := (Option.bind_some _ _).symm.trans H; with_reducible exact H2_) | with_reducible exact H | (rw [hy133]; exact H) | exact H
              have Ny133 := Aside0.mk hy133
              clear hy133
              have H' := Aside0.mk H
              clear H
              have p131 : 0 ≤ (x11_1 : Int) := of_decide_eq_true (by first | (with_reducible assumption) | assumption)
              have q131 : x11_1 < (l0.length : Int) := of_decide_eq_true (by first | (with_reducible assumption) | assumption)
              obtain ⟨ad131, e131, hx131_0⟩ := Kd.at_int HR0.out x11_1 p131 q131
              cases e131
              replace hx131_0 := (HB.out.cell (World.block_lt_of_cell? w _ hx131_0)).trans hx131_0
              replace p131 := eq_true p131
              replace q131 := eq_true q131
              go_wp2_with (first | (go_at_call 197; (with_reducible refine (Go.Proofs.YtcpaajecppplhaaGreatDoor.K.num_mag_at.calls _ _ l1 x11_1 t132 _ ?side1 ?side2 A6.out).mono ?_); (case side1 => repeat (first | exact (Kd.C_below HR1.out HB.out) | (with_reducible refine Kd.C_alloc ?_ _) | (with_reducible refine Kd.C_drewN ?_ _) | (with_reducible refine Kd.C_drew ?_))); (case side2 => exact HC1.out); rintro e w' ⟨rfl, ⟨nd, rfl⟩⟩; (try first | exact ⟨rfl, _, World.drewN_drewN _ _ _⟩ | exact ⟨rfl, _, Eq.trans (World.drewN_drewN _ _ _) (congrArg (World.drewN _) (Nat.add_assoc _ _ _))⟩)) | ((with_reducible refine gate_builtin (b := .append) (xs := #[.tmp 25, .tmp 28]) rfl ?_); at_builtin; refine Kd.R_append (Kd.int .u64) (w0 := w) w.heap.size rfl (.tmp 25) (.tmp 28) 159 188 (.int .u64 0) 8 rfl Tryz.underlying159 info188 rfl (by decide) (by omega) u5 x5_1 (Int.tmod (IntKind.u64.wrap ((IntKind.u64.wrap ((IntKind.u64.wrap ((rd l0 x11_1) + 1000000000)) - t132)) - x6_1)) 1000000000) [.int .u64 (Int.tmod (IntKind.u64.wrap ((IntKind.u64.wrap ((IntKind.u64.wrap ((rd l0 x11_1) + 1000000000)) - t132)) - x6_1)) 1000000000)] (fun k_ => (w.heap.size ≤ k_)) (fun _ => False) rfl rfl ?aP (fun _ hk => hk.elim) ?aF ?aO ?aB ?aS ?aL ?_; (case aP => exact rfl); (case aB => exact bkB); (case aF => exact (fun k_ hk => (Nat.le_trans (below_size bkB) hk))); (case aO => exact (by (with_reducible repeat (first | apply Kd.R_alloc | apply Kd.R_drewN | apply Kd.R_drew)); exact HO_5.out)); (case aS => exact (below_size bkB)); (case aL => have := LMc7.out; omega); intro v134 w8 ho hb hg hat; rw [← Ny133.out] at ho; have n0_ := Aside0.mk (hb); have n1_ := Aside0.mk (ho); clear HB; clear HO_5; have HB := n0_; have HO135 := n1_; clear n0_ n1_; clear ho hb hg hat))
              repeat (go_quiet (first | (go_at_call 197; (with_reducible refine (Go.Proofs.YtcpaajecppplhaaGreatDoor.K.num_mag_at.calls _ _ l1 x11_1 t132 _ ?side1 ?side2 A6.out).mono ?_); (case side1 => repeat (first | exact (Kd.C_below HR1.out HB.out) | (with_reducible refine Kd.C_alloc ?_ _) | (with_reducible refine Kd.C_drewN ?_ _) | (with_reducible refine Kd.C_drew ?_))); (case side2 => exact HC1.out); rintro e w' ⟨rfl, ⟨nd, rfl⟩⟩; (try first | exact ⟨rfl, _, World.drewN_drewN _ _ _⟩ | exact ⟨rfl, _, Eq.trans (World.drewN_drewN _ _ _) (congrArg (World.drewN _) (Nat.add_assoc _ _ _))⟩)) | ((with_reducible refine gate_builtin (b := .append) (xs := #[.tmp 25, .tmp 28]) rfl ?_); at_builtin; refine Kd.R_append (Kd.int .u64) (w0 := w) w.heap.size rfl (.tmp 25) (.tmp 28) 159 188 (.int .u64 0) 8 rfl Tryz.underlying159 info188 rfl (by decide) (by omega) u5 x5_1 (Int.tmod (IntKind.u64.wrap ((IntKind.u64.wrap ((IntKind.u64.wrap ((rd l0 x11_1) + 1000000000)) - t132)) - x6_1)) 1000000000) [.int .u64 (Int.tmod (IntKind.u64.wrap ((IntKind.u64.wrap ((IntKind.u64.wrap ((rd l0 x11_1) + 1000000000)) - t132)) - x6_1)) 1000000000)] (fun k_ => (w.heap.size ≤ k_)) (fun _ => False) rfl rfl ?aP (fun _ hk => hk.elim) ?aF ?aO ?aB ?aS ?aL ?_; (case aP => exact rfl); (case aB => exact bkB); (case aF => exact (fun k_ hk => (Nat.le_trans (below_size bkB) hk))); (case aO => exact (by (with_reducible repeat (first | apply Kd.R_alloc | apply Kd.R_drewN | apply Kd.R_drew)); exact HO_5.out)); (case aS => exact (below_size bkB)); (case aL => have := LMc7.out; omega); intro v134 w8 ho hb hg hat; rw [← Ny133.out] at ho; have n0_ := Aside0.mk (hb); have n1_ := Aside0.mk (ho); clear HB; clear HO_5; have HB := n0_; have HO135 := n1_; clear n0_ n1_; clear ho hb hg hat)); try go_wp2_with (first | (go_at_call 197; (with_reducible refine (Go.Proofs.YtcpaajecppplhaaGreatDoor.K.num_mag_at.calls _ _ l1 x11_1 t132 _ ?side1 ?side2 A6.out).mono ?_); (case side1 => repeat (first | exact (Kd.C_below HR1.out HB.out) | (with_reducible refine Kd.C_alloc ?_ _) | (with_reducible refine Kd.C_drewN ?_ _) | (with_reducible refine Kd.C_drew ?_))); (case side2 => exact HC1.out); rintro e w' ⟨rfl, ⟨nd, rfl⟩⟩; (try first | exact ⟨rfl, _, World.drewN_drewN _ _ _⟩ | exact ⟨rfl, _, Eq.trans (World.drewN_drewN _ _ _) (congrArg (World.drewN _) (Nat.add_assoc _ _ _))⟩)) | ((with_reducible refine gate_builtin (b := .append) (xs := #[.tmp 25, .tmp 28]) rfl ?_); at_builtin; refine Kd.R_append (Kd.int .u64) (w0 := w) w.heap.size rfl (.tmp 25) (.tmp 28) 159 188 (.int .u64 0) 8 rfl Tryz.underlying159 info188 rfl (by decide) (by omega) u5 x5_1 (Int.tmod (IntKind.u64.wrap ((IntKind.u64.wrap ((IntKind.u64.wrap ((rd l0 x11_1) + 1000000000)) - t132)) - x6_1)) 1000000000) [.int .u64 (Int.tmod (IntKind.u64.wrap ((IntKind.u64.wrap ((IntKind.u64.wrap ((rd l0 x11_1) + 1000000000)) - t132)) - x6_1)) 1000000000)] (fun k_ => (w.heap.size ≤ k_)) (fun _ => False) rfl rfl ?aP (fun _ hk => hk.elim) ?aF ?aO ?aB ?aS ?aL ?_; (case aP => exact rfl); (case aB => exact bkB); (case aF => exact (fun k_ hk => (Nat.le_trans (below_size bkB) hk))); (case aO => exact (by (with_reducible repeat (first | apply Kd.R_alloc | apply Kd.R_drewN | apply Kd.R_drew)); exact HO_5.out)); (case aS => exact (below_size bkB)); (case aL => have := LMc7.out; omega); intro v134 w8 ho hb hg hat; rw [← Ny133.out] at ho; have n0_ := Aside0.mk (hb); have n1_ := Aside0.mk (ho); clear HB; clear HO_5; have HB := n0_; have HO135 := n1_; clear n0_ n1_; clear ho hb hg hat)))
              go_roundg k1
              case measure => have := HK1.out; omega
              case rel => exact ⟨(y133), (IntKind.u64.wrap (1 - (IntKind.u64.wrap (Int.tdiv (IntKind.u64.wrap ((IntKind.u64.wrap ((IntKind.u64.wrap ((rd l0 x11_1) + 1000000000)) - t132)) - x6_1)) 1000000000)))), (wrap64 (x11_1 + 1)), bkF, bkF, H', ⟨by have := HK1.out; omega⟩, ⟨by (with_reducible repeat (first | apply Kd.R_alloc | apply Kd.R_drewN | apply Kd.R_drew)); exact HO135.out⟩, ⟨bkB⟩⟩
            · rw [if_neg c7] at H
              exact absurd H (by simp)
          · rw [if_neg c5] at H
            exact absurd H (by simp)
        · rw [if_neg c4] at H
          exact absurd H (by simp)
      · rw [if_neg c3] at H
        have c3b0 : decide (x11_1 < (l0.length : Int)) = false := decide_eq_false c3
        clear c3
        obtain ⟨t136, A90, H⟩ := Option.bind_eq_some_iff.mp H
        try dsimp only at H
        have A9 := Aside0.mk A90
        clear A90
        obtain rfl := Option.some.inj H
        obtain ⟨Ao10, co10, eo10⟩ := Kd.R_slice HO_5.out
        subst eo10
        go_wp2_with (go_at_call 198; refine (trimR k1 w.heap.size (fun k_ => (w.heap.size ≤ k_)) _ _ x5_1 t136 _ HO_5.out A9.out).mono ?_; rintro e w11 ⟨rfl, hR, ⟨nd, rfl⟩⟩)
        go_ret
        exact ⟨_, rfl, Kd.R_drewN hR nd, pw_below_drewN HB.out nd⟩
theorem own_of_cells {w : World} {B g c : Nat} {cur : Array Value} {ys : List Int} (hB : B ≤ g) (hh : w.heap[g]? = some (.cells cur 188 (0, 0))) (hn : ys.length ≤ c) (hmx : c ≤ maxLen) (hs : cur.size = c) (ht : ∀ j, j < ys.length → cur[j]? = (nums .u64 ys)[j]?) :
    w.ownsRow B 188 1 (.slice (some ⟨g, 0, none⟩) ys.length c) ys.length (nums .u64 ys) := by
  refine ⟨by simp [nums], .inr ⟨g, c, cur, rfl, hB, hh, hn, hmx, by omega, ?_⟩⟩
  apply List.ext_getElem?
  intro j
  rw [List.getElem?_take]
  by_cases hj : j < ys.length
  · rw [if_pos (by omega), ← ht j hj]
    simp
  · rw [if_neg (by omega), List.getElem?_eq_none (by simp [nums]; omega)]
theorem nums_cons (x : Int) (xs : List Int) (j : Nat) : (nums .u64 (x :: xs))[j]? = if j = 0 then some (.int .u64 x) else (nums .u64 xs)[j - 1]? := by
  cases j with
  | zero => rfl
  | succ j => rfl
set_option maxHeartbeats 1000000 in
theorem insertR (x : Int) (xs : List Int) (v : Value) (vb B : Nat) (ok : Nat → Prop) (w : World) (hR : Kd.R (Kd.int .u64) 188 w B ok v xs) (hfresh : ∀ k, w.heap.size ≤ k → ok k) (hvb : w.heap[vb]? = some (.cells #[.int .u64 x] 188 (0, 0))) (hne : v.ownBlock ≠ some vb) (hBw : B ≤ w.heap.size) (hl : xs.length ≤ 1000000) :
    Calls Tryz.prog 225 #[v, .int .i64 0, .slice (some ⟨vb, 0, none⟩) 1 1] w fun e w' => ∃ v', e = .returned v' ∧ Kd.R (Kd.int .u64) 188 w' B ok v' (x :: xs) ∧ w.grownBy w' v.ownBlock := by
  have h1 := own_of_R hR
  have grow : ∀ (G : Nat) (ROW : Array Value) (W : World) (row : Option Nat), W.heap[w.heap.size]? = some (.cells ROW 188 (0, 0)) → xs.length + 1 ≤ G → G ≤ maxLen → ROW.size = G → (∀ j, j < xs.length + 1 → ROW[j]? = (nums .u64 (x :: xs))[j]?) → w.grownBy W row →
      ∃ v', (Ending.returned (.slice (some ⟨w.heap.size, 0, none⟩) (xs.length + 1) G) : Ending) = .returned v' ∧ Kd.R (Kd.int .u64) 188 W B ok v' (x :: xs) ∧ w.grownBy W row := fun G ROW W row h2 h3 h4 h5 h6 h7 =>
    ⟨_, rfl, R_of_own (own_of_cells hBw h2 (by simpa using h3) h4 h5 (fun j hj => h6 j (by simpa using hj))) (fun k hk => hfresh k (Nat.le_of_eq (by simpa [Value.ownBlock] using hk))), h7⟩
  have hal : ∀ o : Obj, w.grownBy (w.drew.alloc o) v.ownBlock := fun o => grown_of_below ((pw_below_drewN (Below.refl _ w) 1).alloc (Nat.le_refl _) o) _
  rcases h1.2 with ⟨rfl, h0⟩ | ⟨g, c, cur, rfl, hg, hh, hn, hmx, hs, ht⟩
  · have hx0 : xs = [] := List.length_eq_zero_iff.1 h0
    subst hx0
    refine (insert_first_grow none vb x w hvb).mono ?_
    rintro e w' ⟨rfl, rfl⟩
    have hG := grownCap_ge w 1 0 188
    have hGm := grownCap_le_maxLen w 1 0 188 (by unfold maxLen; omega)
    refine grow _ _ _ _ (heap_alloc_new w.drew _) hG hGm (by simp [Builtin.zeroCells, Value.cells]; omega) (fun j hj => ?_) (hal _)
    have : j = 0 := by simp at hj; exact hj
    subst this
    rw [Array.getElem?_append_left (by simp)]
    rfl
  · have hs1 : cur.size = c := by omega
    have hvg : vb ≠ g := fun e => hne (by subst e; rfl)
    have hcell : ∀ j, w.cell? ⟨g, j, none⟩ = cur[j]? := fun j => by simp [World.cell?, hh]
    have hfz : ∀ j, w.frozen? ⟨g, j, none⟩ = false := fun j => by simp [World.frozen?, hh]
    have hcs : ∀ j v, (nums .u64 xs)[j]? = some v → w.cell? ⟨g, j, none⟩ = some v := fun j v hj => by
      rw [hcell, ← hj, ← ht, List.getElem?_take]
      have : j < xs.length := by
        have := (List.getElem?_eq_some_iff.1 hj).1
        simpa [nums] using this
      rw [if_pos (by omega)]
      simp
    have h1c : ∀ v ∈ nums .u64 xs, v.oneCell' = true := fun v hv => by
      simp only [nums, List.mem_map] at hv
      obtain ⟨y, _, rfl⟩ := hv
      rfl
    have hnl : (nums .u64 xs).length = xs.length := by simp [nums]
    have hgw : g < w.heap.size := (Array.getElem?_eq_some_iff.1 hh).1
    have hc63 : c ≤ 9223372036854775807 := by unfold maxLen at hmx; omega
    have hokg : ok g := hR.1 g rfl
    by_cases hr : xs.length + 1 ≤ c
    · have fin : ∀ W, (∃ cur', W.heap[g]? = some (.cells cur' 188 (0, 0)) ∧ cur'.size = cur.size ∧ ∀ j, j < xs.length + 1 → cur'[j]? = (nums .u64 (x :: xs))[j]?) → w.grownBy W (some g) →
          ∃ v', (Ending.returned (.slice (some ⟨g, 0, none⟩) (xs.length + 1) c) : Ending) = .returned v' ∧ Kd.R (Kd.int .u64) 188 W B ok v' (x :: xs) ∧ w.grownBy W (some g) := fun W hW hg2 => by
        obtain ⟨cur', e1, e2, e3⟩ := hW
        exact ⟨_, rfl, R_of_own (own_of_cells hg e1 (by simpa using hr) hmx (by omega) (fun j hj => e3 j (by simpa using hj))) (fun k hk => (show g = k by simpa [Value.ownBlock] using hk) ▸ hokg), hg2⟩
      by_cases h0 : xs = []
      · subst h0
        refine (insert_first_room g c vb x w (by simpa using hr) hc63 (by rw [hcell, Array.getElem?_eq_getElem (by simp at hr; omega)]; rfl) (hfz 0) hvb).mono ?_
        rintro e w' ⟨rfl, rfl⟩
        obtain ⟨cur', e1, e2, e3⟩ := setCells_row g 188 [.int .u64 x] 0 w cur hh
        refine fin _ ⟨cur', e1, e2, fun j hj => ?_⟩ (setCells_grown _ _ _ _)
        have : j = 0 := by simp at hj; exact hj
        subst this
        rw [e3 0 (by simp at hr; omega)]
        simp [nums]
      · refine (insert_shift g xs.length c vb x (nums .u64 xs) w (List.length_pos_iff.mpr h0) hr hc63 hvg hnl hcs (fun j hj => by rw [hcell, Array.getElem?_eq_getElem (by omega)]; rfl) hfz hvb h1c cur.size (by simp [World.shape?, hh]) (by omega)).mono ?_
        rintro e w' ⟨rfl, rfl⟩
        obtain ⟨cur1, e1, e2, e3⟩ := setCells_row g 188 (nums .u64 xs) 1 w.drew cur hh
        obtain ⟨cur2, d1, d2, d3⟩ := setCells_row g 188 [.int .u64 x] 0 _ cur1 e1
        refine fin _ ⟨cur2, d1, by omega, fun j hj => ?_⟩ ?_
        · rw [d3 j (by omega), nums_cons]
          by_cases hj0 : j = 0
          · subst hj0
            simp
          · rw [if_neg (by simp only [List.length_cons, List.length_nil]; omega), if_neg hj0, e3 j (by omega), if_pos (by omega)]
        · have k1 := setCells_grown w.drew g 1 (nums .u64 xs)
          have k2 := setCells_grown (w.drew.setCells g 1 (nums .u64 xs)) g 0 [.int .u64 x]
          exact ⟨k2.os.trans k1.os, k2.tape.trans k1.tape, k2.output.trans k1.output, Nat.le_trans k1.size k2.size, fun k hk hn => (k2.block k (Nat.lt_of_lt_of_le hk k1.size) hn).trans (k1.block k hk hn)⟩
    · have hce : c = xs.length := by omega
      by_cases h0 : xs = []
      · subst h0
        have hc0 : c = 0 := by simpa using hce
        subst hc0
        refine (insert_first_grow (some ⟨g, 0, none⟩) vb x w hvb).mono ?_
        rintro e w' ⟨rfl, rfl⟩
        have hG := grownCap_ge w 1 0 188
        have hGm := grownCap_le_maxLen w 1 0 188 (by unfold maxLen; omega)
        refine grow _ _ _ _ (heap_alloc_new w.drew _) hG hGm (by simp [Builtin.zeroCells, Value.cells]; omega) (fun j hj => ?_) (hal _)
        have : j = 0 := by simp at hj; exact hj
        subst this
        rw [Array.getElem?_append_left (by simp)]
        rfl
      · refine (insert_grow g xs.length c vb x (nums .u64 xs) w (List.length_pos_iff.mpr h0) hn (by omega) (by omega) hnl hcs hvb h1c).mono ?_
        rintro e w' ⟨rfl, rfl⟩
        have hG := grownCap_ge w (xs.length + 1) c 188
        have hGm := grownCap_le_maxLen w (xs.length + 1) c 188 (by unfold maxLen; omega)
        obtain ⟨G, hGe⟩ : ∃ G, G = grownCap w (xs.length + 1) c 188 := ⟨_, rfl⟩
        rw [← hGe] at hG hGm ⊢
        obtain ⟨ROW, hROW⟩ : ∃ ROW : Array Value, ROW = Builtin.zeroCells (Value.int .u64 0).cells (xs.length + 1) ++ Builtin.zeroCells (Value.int .u64 0).cells (G - (xs.length + 1)) := ⟨_, rfl⟩
        have hRs : ROW.size = G := by rw [hROW]; simp [Builtin.zeroCells, Value.cells]; omega
        rw [← hROW]
        have n0 : (w.alloc (.cells ROW 188)).drew.heap[w.heap.size]? = some (.cells ROW 188 (0, 0)) := heap_alloc_new w (.cells ROW 188)
        obtain ⟨cur1, e1, e2, e3⟩ := setCells_row w.heap.size 188 [.int .u64 x] 0 (w.alloc (.cells ROW 188)).drew ROW n0
        obtain ⟨cur2, d1, d2, d3⟩ := setCells_row w.heap.size 188 (nums .u64 xs) 1 ((w.alloc (.cells ROW 188)).drew.setCells w.heap.size 0 [.int .u64 x]).drew cur1 e1
        refine grow G cur2 _ _ d1 hG hGm (by omega) (fun j hj => ?_) ?_
        · rw [d3 j (by omega), nums_cons]
          by_cases hj0 : j = 0
          · subst hj0
            rw [if_neg (by omega), e3 0 (by omega)]
            simp
          · rw [if_neg hj0, if_pos (by omega)]
        · have k0 : w.grownBy (w.alloc (.cells ROW 188)) (some w.heap.size) := grown_of_below ((Below.refl _ w).alloc (Nat.le_refl _) _) _
          have k1 := setCells_grown (w.alloc (.cells ROW 188)).drew w.heap.size 0 [.int .u64 x]
          have k2 := setCells_grown ((w.alloc (.cells ROW 188)).drew.setCells w.heap.size 0 [.int .u64 x]).drew w.heap.size 1 (nums .u64 xs)
          have hsz0 : w.heap.size ≤ (w.alloc (.cells ROW 188)).drew.heap.size := k0.size
          refine ⟨k2.os.trans (k1.os.trans k0.os), k2.tape.trans (k1.tape.trans k0.tape), k2.output.trans (k1.output.trans k0.output), Nat.le_trans hsz0 (Nat.le_trans k1.size k2.size), fun k hk _ => ?_⟩
          have hkn : some k ≠ some w.heap.size := fun e => by have := Option.some.inj e; omega
          exact (k2.block k (Nat.lt_of_lt_of_le hk (Nat.le_trans hsz0 k1.size)) hkn).trans ((k1.block k (Nat.lt_of_lt_of_le hk hsz0) hkn).trans (k0.block k hk hkn))
end Go.Proofs.YtcpaajecppplhaaGreatDoor.Hd
end
