/- What the law leans on, part 17: declarations of several texts of ours, in their order. -/
import Derived.Test.YtkhgpnbhnipndaaGreatDoorXFS15
import Derived.Shelf.Spec.SlicesInsertGrow
section
/- slices.Insert of a part ahead of all others, num.trim and num.less, told with whose row it is that they hand back. -/
namespace Go.Proofs.YtkhgpnbhnipndaaGreatDoor.Hd
open Go.RowKit Go.Proofs.YtkhgpnbhnipndaaGreatDoorW.PrintWords Go.Proofs.YtkhgpnbhnipndaaGreatDoorW.PrintLast Go.Proofs.YtkhgpnbhnipndaaGreatDoorW.PrintMore Go.Proofs.YtkhgpnbhnipndaaGreatDoor.B Go.Lib Go.Shelf
set_option linter.unusedVariables false
set_option linter.unusedSimpArgs false
theorem reps_nums (xs : List Int) : Reps (fun (x : Int) cs => cs = [Value.int .u64 x]) 1 xs (nums .u64 xs) := ⟨by simp [nums], fun j p h => by
  have h1 : (nums .u64 xs)[j]? = some (.int .u64 p) := by simp [nums, h]
  obtain ⟨hj, e⟩ := List.getElem?_eq_some_iff.1 h1
  rw [Nat.mul_one, List.drop_eq_getElem_cons hj, e]
  rfl⟩
theorem reps_eq {xs : List Int} {cs : List Value} (h : Reps (fun (x : Int) cs => cs = [Value.int .u64 x]) 1 xs cs) : cs = nums .u64 xs := by
  apply List.ext_getElem?
  intro j
  have hl : cs.length = xs.length := by rw [h.1, Nat.mul_one]
  by_cases hj : j < xs.length
  · have h2 := h.2 j xs[j] (List.getElem?_eq_getElem hj)
    rw [Nat.mul_one, List.drop_eq_getElem_cons (by omega), List.take_succ_cons, List.take_zero] at h2
    rw [List.getElem?_eq_getElem (by omega), (List.cons.inj h2).1]
    simp [nums, hj]
  · rw [List.getElem?_eq_none (by omega), List.getElem?_eq_none (by simp [nums]; omega)]
theorem R_of_own {w : World} {B : Nat} {ok : Nat → Prop} {v : Value} {xs : List Int} (h : w.ownsRow B 205 1 v xs.length (nums .u64 xs)) (hok : ∀ k, v.ownBlock = some k → ok k) : Kd.R (Kd.int .u64) 205 w B ok v xs := ⟨hok, nums .u64 xs, h, reps_nums xs⟩
theorem own_of_R {w : World} {B : Nat} {ok : Nat → Prop} {v : Value} {xs : List Int} (h : Kd.R (Kd.int .u64) 205 w B ok v xs) : w.ownsRow B 205 1 v xs.length (nums .u64 xs) := by
  obtain ⟨_, inner, ho, hr⟩ := h
  rw [← reps_eq hr]
  exact ho
theorem setCells_other (g i : Nat) (hi : i ≠ g) : ∀ (vs : List Value) (o : Nat) (w : World), (w.setCells g o vs).heap[i]? = w.heap[i]?
  | [], _, _ => rfl
  | v :: r, o, w => (setCells_other g i hi r (o + 1) (w.setCell ⟨g, o, none⟩ v)).trans (Below.heap_setCell w ⟨g, o, none⟩ v i hi)
theorem setCells_grown (w : World) (g o : Nat) (vs : List Value) : w.grownBy (w.setCells g o vs) (some g) :=
  ⟨(setCells_same g vs o w).1, (setCells_same g vs o w).2.1, (setCells_same g vs o w).2.2.1, by rw [(setCells_same g vs o w).2.2.2]; exact Nat.le_refl _, fun k hk hne => setCells_other g k (fun e => hne (by rw [e])) vs o w⟩
theorem setCells_row (g t : Nat) : ∀ (vs : List Value) (o : Nat) (w : World) (cur : Array Value), w.heap[g]? = some (.cells cur t (0, 0)) →
    ∃ cur', (w.setCells g o vs).heap[g]? = some (.cells cur' t (0, 0)) ∧ cur'.size = cur.size ∧ ∀ j, j < cur.size → cur'[j]? = if o ≤ j ∧ j < o + vs.length then vs[j - o]? else cur[j]?
  | [], o, w, cur, h => ⟨cur, h, rfl, fun j _ => by rw [if_neg (by rw [List.length_nil]; omega)]⟩
  | v :: r, o, w, cur, h => by
    obtain ⟨cur', h1, h2, h3⟩ := setCells_row g t r (o + 1) (w.setCell ⟨g, o, none⟩ v) (cur.setIfInBounds o v) (blk_put h o v rfl)
    refine ⟨cur', h1, by rw [h2]; simp, fun j hj => ?_⟩
    rw [h3 j (by simpa using hj)]
    by_cases e : j = o
    · subst e
      rw [if_neg (by omega), if_pos (by simp), Array.getElem?_setIfInBounds_self_of_lt hj]
      simp
    · rw [Array.getElem?_setIfInBounds_ne (fun h => e h.symm)]
      by_cases hc : o + 1 ≤ j ∧ j < o + 1 + r.length
      · rw [if_pos hc, if_pos (by simp only [List.length_cons]; omega), show j - o = (j - (o + 1)) + 1 by omega, List.getElem?_cons_succ]
      · rw [if_neg hc, if_neg (by simp only [List.length_cons]; omega)]
theorem size_of_u64 (w : World) : (Go.sizeOf 205).run Tryz.prog w = .ok 1 w := by
  obtain ⟨i0, hi0, _, hz, _⟩ := info_parts info205
  simp [Go.sizeOf, hi0, hz, go_sem]
  rfl
set_option maxHeartbeats 4000000 in
set_option maxRecDepth 100000 in
theorem insert_shift (g n c vb cv : Nat) (ar : Array Value) (x : Int) (har : ar[0]? = some (.int .u64 x)) (cs : List Value) (w : World) (hn : 0 < n) (hroom : n + 1 ≤ c) (hc63 : c ≤ 9223372036854775807) (hvb : vb ≠ g) (hcl : cs.length = n)
    (hcs : ∀ j v, cs[j]? = some v → w.cell? ⟨g, j, none⟩ = some v) (hsp : ∀ j, j < n + 1 → (w.cell? ⟨g, j, none⟩).isSome = true) (hfz : ∀ j, w.frozen? ⟨g, j, none⟩ = false)
    (hvs : w.heap[vb]? = some (.cells ar 205 (0, 0))) (h1c : ∀ v ∈ cs, v.oneCell' = true) (kB : Nat) (hsb : w.shape? g = some (205, kB)) (hkB : kB ≠ 0) :
    Calls Tryz.prog 234 #[.slice (some ⟨g, 0, none⟩) n c, .int .i64 0, .slice (some ⟨vb, 0, none⟩) 1 cv] w fun e w' =>
      e = .returned (.slice (some ⟨g, 0, none⟩) (n + 1) c) ∧ w' = (w.drew.setCells g 1 cs).setCells g 0 [.int .u64 x] := by
  obtain ⟨i0, hi0, _, hz0, _⟩ := info_parts info205
  have hsz : (Tryz.prog.info? 205).map (·.size) = some 1 := by rw [hi0]; simp [hz0]
  have hsa : w.shape? vb = some (205, ar.size) := by simp [World.shape?, hvs]
  have hfa : ∀ j, w.frozen? ⟨vb, j, none⟩ = false := fun j => by simp [World.frozen?, hvs]
  have hz2 : ((0 : Int) == (n : Int)) = false := beq_eq_false_iff_ne.mpr (by omega)
  have hz3 : ¬ ((0 : Int) = (n : Int)) := by omega
  have hov : ∀ lb cb, (callFunc 258 #[.slice (some ⟨vb, 0, none⟩) 1 cv, .slice (some ⟨g, 1, none⟩) lb cb]).run Tryz.prog w = .ok (.value (.bool false)) w := fun lb cb => by
    rw [run_callFunc_extern Tryz.func258 (by kernel_rfl) (by kernel_rfl) (by kernel_rfl) (e := Extern.SlicesOverlaps.overlaps #[173, 173] #[4]) (by kernel_rfl),
      Lib.run_overlaps_apart w 173 4 205 Tryz.underlying173 1 size_of_u64 ⟨vb, 0, none⟩ ⟨g, 1, none⟩ 1 cv lb cb hvb 205 205 ar.size kB hsa hsb hkB (hfa 0) (hfa _)]
    rfl
  have hcp1 : ∀ ty dc sc, (Builtin.copy_ #[174, 174] ty #[.slice (some ⟨g, 1, none⟩) n dc, .slice (some ⟨g, 0, none⟩) (n + 1) sc]).run Tryz.prog w.drew = .ok (goInt cs.length) (w.drew.setCells g 1 cs) := fun ty dc sc =>
    run_copy_cells w.drew _ _ ty 205 g 1 n dc ⟨g, 0, none⟩ (n + 1) sc cs Tryz.underlying174 hsz (by rw [hcl]; simp only [Nat.min_def]; split <;> omega)
      (fun j v hj => by rw [Addr.add_lit, Nat.zero_add]; exact hcs j v hj)
      (fun j hj => hsp (1 + j) (by omega)) (fun j hj => hfz _) h1c
  obtain ⟨W1, hW1⟩ : ∃ W1, W1 = w.drew.setCells g 1 cs := ⟨_, rfl⟩
  have hsp1 : ∀ k, k < n + 1 → (W1.cell? ⟨g, k, none⟩).isSome = true := fun k hk => by
    rw [hW1]
    exact isSome_setCells g cs 1 w.drew (fun j hj => hsp (1 + j) (by omega)) _ (hsp k hk)
  have hcp2 : ∀ (W : World), (∀ x, W.cell? x = W1.cell? x) → (∀ x, W.frozen? x = W1.frozen? x) → ∀ ty dc, (Builtin.copy_ #[174, 173] ty #[.slice (some ⟨g, 0, none⟩) (n + 1) dc, .slice (some ⟨vb, 0, none⟩) 1 cv]).run Tryz.prog W = .ok (goInt 1) (W.setCells g 0 [.int .u64 x]) := fun W hWc hWf ty dc =>
    run_copy_cells W _ _ ty 205 g 0 (n + 1) dc ⟨vb, 0, none⟩ 1 cv [.int .u64 x] Tryz.underlying174 hsz (by simp only [List.length_cons, List.length_nil, Nat.min_def]; split <;> omega)
      (fun j v hj => by
        rw [Addr.add_lit, hWc, hW1, World.cell?_setCells_out g _ _ _ _ (fun h _ => absurd h hvb)]
        cases j with
        | zero => simp at hj; subst hj; show w.cell? _ = _; simpa [World.cell?, hvs] using har
        | succ j => simp at hj)
      (fun j hj => by rw [hWc]; exact hsp1 _ (by simp at hj; omega)) (fun j hj => by rw [hWf, hW1, World.frozen?_setCells]; exact hfz _) (fun v hv => by simp at hv; subst hv; rfl)
  rw [← hW1] at hcp1
  have hw1 : IntKind.i64.wrap ((n : Int) + 1) = (n : Int) + 1 := by rw [IntKind.wrap_i64]; have : (n : Int) + 1 ≤ 9223372036854775807 := by omega
                                                                    omega
  have mixed : Tryz.prog.follows .mixedOrders = true := by kernel_rfl
  have hwr : IntKind.i64.wrap 1 = 1 := by decide
  have hb2 : ¬ (c = 1) := by omega
  have hb3 : (1 : Int) ≤ (n : Int) + 1 := by omega
  have hb4 : (0 : Int) ≤ 1 := by omega
  have hb5 : (0 : Int) ≤ (n : Int) + 1 := by omega
  have ht1 : (1 : Int).toNat = 1 := rfl
  go_enter Tryz.func234, Tryz.ntmps234
  go_wp2_with (simp only [hov])
  go_region_law_o (refine step_copy_runI rfl _ _ 174 174 rfl _ _ (by simp [Act.eval, Act.put]) (by simp [Act.eval, Act.put]) (hcp1 _ _ _) ?_)
  go_wp2_with (at_builtin; refine wpList_copy_runI _ rfl _ _ 174 173 rfl _ _ rfl rfl (hcp2 _ (fun _ => rfl) (fun _ => rfl) _ _) ?_)
  go_ret
  first | exact ⟨rfl, rfl⟩ | exact ⟨rfl, by rw [hW1]⟩
set_option maxHeartbeats 4000000 in
set_option maxRecDepth 100000 in
theorem insert_first_room (g c vb cv : Nat) (ar : Array Value) (x : Int) (har : ar[0]? = some (.int .u64 x)) (w : World) (hroom : 1 ≤ c) (hc63 : c ≤ 9223372036854775807)
    (hsp : (w.cell? ⟨g, 0, none⟩).isSome = true) (hfz : w.frozen? ⟨g, 0, none⟩ = false) (hvs : w.heap[vb]? = some (.cells ar 205 (0, 0))) :
    Calls Tryz.prog 234 #[.slice (some ⟨g, 0, none⟩) 0 c, .int .i64 0, .slice (some ⟨vb, 0, none⟩) 1 cv] w fun e w' =>
      e = .returned (.slice (some ⟨g, 0, none⟩) 1 c) ∧ w' = w.setCells g 0 [.int .u64 x] := by
  have hvc : w.cell? ⟨vb, 0, none⟩ = some (.int .u64 x) := by simpa [World.cell?, hvs] using har
  have hsrc : Src Tryz.prog 1 173 (.slice (some ⟨vb, 0, none⟩) 1 cv) 1 [.int .u64 x] w := Src.ofSlice w Tryz.underlying173 ⟨vb, 0, none⟩ 1 cv [.int .u64 x] (by simp) (fun j u hj => by
      rw [Addr.add_lit]
      cases j with
      | zero => simp at hj; subst hj; exact hvc
      | succ j => simp at hj) (fun v hv => by simp at hv; subst hv; rfl)
  go_enter Tryz.func234, Tryz.ntmps234
  go_wp2_with (at_builtin; refine wpList_append_room1 _ rfl _ _ 174 173 rfl 205 _ _ Tryz.underlying174 info205 g 0 0 c rfl _ rfl 1 [.int .u64 x] hsrc (by omega) (fun j hj => by simp at hj; subst hj; exact hsp) (fun j hj => by simp at hj; subst hj; exact hfz) ?_)
  go_ret
  exact ⟨rfl, rfl⟩
set_option maxHeartbeats 4000000 in
set_option maxRecDepth 100000 in
theorem insert_first_grow (base : Option Addr) (vb cv : Nat) (ar : Array Value) (x : Int) (har : ar[0]? = some (.int .u64 x)) (w : World) (hvs : w.heap[vb]? = some (.cells ar 205 (0, 0))) :
    Calls Tryz.prog 234 #[.slice base 0 0, .int .i64 0, .slice (some ⟨vb, 0, none⟩) 1 cv] w fun e w' =>
      e = .returned (.slice (some ⟨w.heap.size, 0, none⟩) 1 (grownCap w 1 0 205)) ∧
      w' = w.drew.alloc (.cells (#[.int .u64 x] ++ Builtin.zeroCells (Value.int .u64 0).cells (grownCap w 1 0 205 - 1)) 205) := by
  obtain ⟨i0, hi0, hz0, hzs, hzb⟩ := info_parts info205
  have hvc : w.cell? ⟨vb, 0, none⟩ = some (.int .u64 x) := by simpa [World.cell?, hvs] using har
  have hsrc : Src Tryz.prog i0.size 173 (.slice (some ⟨vb, 0, none⟩) 1 cv) 1 [.int .u64 x] w := by
    rw [hzs]
    exact Src.ofSlice w Tryz.underlying173 ⟨vb, 0, none⟩ 1 cv [.int .u64 x] (by simp) (fun j u hj => by
      rw [Addr.add_lit]
      cases j with
      | zero => simp at hj; subst hj; exact hvc
      | succ j => simp at hj) (fun v hv => by simp at hv; subst hv; rfl)
  have hold : (Builtin.firstCells i0.size 0 (.slice base 0 0)).run Tryz.prog w.drew = .ok ([] : List Value).toArray w.drew := by
    rw [hzs]
    cases base with
    | none => exact run_firstCells_none w.drew 1 0 0 0
    | some a => exact run_firstCells_some w.drew 1 0 a 0 0 [] (by simp) (fun j v hj => by simp at hj)
  have hrun : ∀ ty, (Builtin.append_ #[174, 173] ty #[.slice base 0 0, .slice (some ⟨vb, 0, none⟩) 1 cv]).run Tryz.prog w = _ := fun ty =>
    run_append_grow_src w 174 173 ty 205 i0 _ Tryz.underlying174 hi0 hz0 base 0 0 [] hold _ 1 [.int .u64 x] hsrc (by omega) (by omega) (by rw [hzb]; exact growslice_fits (by omega) (by omega))
  go_enter Tryz.func234, Tryz.ntmps234
  cases base with
  | none =>
    go_wp2_with (at_builtin; refine Lib.wpList_append_run _ rfl _ _ _ _ rfl _ _ rfl rfl _ _ (hrun _) ?_)
    go_ret
    exact ⟨rfl, rfl⟩
  | some a =>
    obtain ⟨ab, ao, asp⟩ := a
    go_wp2_with (at_builtin; refine Lib.wpList_append_run _ rfl _ _ _ _ rfl _ _ rfl rfl _ _ (hrun _) ?_)
    all_goals (go_ret; exact ⟨rfl, rfl⟩)
set_option maxHeartbeats 4000000 in
set_option maxRecDepth 100000 in
theorem insert_grow (g n c vb cv : Nat) (ar : Array Value) (x : Int) (har : ar[0]? = some (.int .u64 x)) (cs : List Value) (w : World) (hn : 0 < n) (hnc : n ≤ c) (hroom : c < n + 1) (hbig : (n + 1) * 8 ≤ 140737488355328) (hcl : cs.length = n)
    (hcs : ∀ j v, cs[j]? = some v → w.cell? ⟨g, j, none⟩ = some v) (hvs : w.heap[vb]? = some (.cells ar 205 (0, 0))) (h1c : ∀ v ∈ cs, v.oneCell' = true) :
    Calls Tryz.prog 234 #[.slice (some ⟨g, 0, none⟩) n c, .int .i64 0, .slice (some ⟨vb, 0, none⟩) 1 cv] w fun e w' =>
      e = .returned (.slice (some ⟨w.heap.size, 0, none⟩) (n + 1) (grownCap w (n + 1) c 205)) ∧
      w' = (((w.alloc (.cells (Builtin.zeroCells (Value.int .u64 0).cells (n + 1) ++ Builtin.zeroCells (Value.int .u64 0).cells (grownCap w (n + 1) c 205 - (n + 1))) 205)).drew.setCells w.heap.size 0 [.int .u64 x]).drew).setCells w.heap.size 1 cs := by
  obtain ⟨i0, hi0, hz0, hzs, hzb⟩ := info_parts info205
  have hsz : (Tryz.prog.info? 205).map (·.size) = some 1 := by rw [hi0]; simp [hzs]
  have hbw : g < w.heap.size := block_lt_of_cell (hcs 0 _ (List.getElem?_eq_getElem (by omega)))
  have hvw : vb < w.heap.size := (Array.getElem?_eq_some_iff.1 hvs).1
  have hvc : w.cell? ⟨vb, 0, none⟩ = some (.int .u64 x) := by simpa [World.cell?, hvs] using har
  have hold : (Builtin.firstCells i0.size 0 (.slice (some ⟨g, 0, none⟩) 0 c)).run Tryz.prog w.drew = .ok ([] : List Value).toArray w.drew := by
    rw [hzs]
    exact run_firstCells_some w.drew 1 0 ⟨g, 0, none⟩ 0 c [] (by simp) (fun j v hj => by simp at hj)
  have hkk : (n : Int) + 1 - 0 = ((n + 1 : Nat) : Int) := by omega
  have hrz : ∀ ty, (Builtin.append_ #[174, 3] ty #[.slice (some ⟨g, 0, none⟩) 0 c, .int .i64 ((n : Int) + 1)]).run Tryz.prog w =
      .ok (.slice (some ⟨w.heap.size, 0, none⟩) (n + 1) (grownCap w (n + 1) c 205)) (w.drew.alloc (.cells (Builtin.zeroCells (Value.int .u64 0).cells (n + 1) ++ Builtin.zeroCells (Value.int .u64 0).cells (grownCap w (n + 1) c 205 - (n + 1))) 205)) := fun ty => by
    have h := Lib.run_append_grow_zeros w 174 3 ty 205 i0 _ .i64 .i64 Tryz.underlying174 Tryz.underlying3 hi0 hz0 (some ⟨g, 0, none⟩) 0 c [] hold (n + 1) (by omega) (by omega) (by omega) (by omega) (by rw [hzb]; omega) (by rw [hzb, Nat.zero_add]; exact growslice_fits hroom hbig)
    rw [Nat.zero_add] at h
    simpa using h
  obtain ⟨G, hG⟩ : ∃ G, G = grownCap w (n + 1) c 205 := ⟨_, rfl⟩
  obtain ⟨ROW, hROW⟩ : ∃ ROW : Array Value, ROW = Builtin.zeroCells (Value.int .u64 0).cells (n + 1) ++ Builtin.zeroCells (Value.int .u64 0).cells (G - (n + 1)) := ⟨_, rfl⟩
  rw [← hG] at hrz ⊢
  rw [← hROW] at hrz ⊢
  have hRl : n + 1 ≤ ROW.size := by
    rw [hROW]
    simp [Builtin.zeroCells, Value.cells]
    try omega
  obtain ⟨W1, hW1⟩ : ∃ W1, W1 = w.drew.alloc (.cells ROW 205) := ⟨_, rfl⟩
  rw [← hW1] at hrz
  have hN : ∀ j, j < n + 1 → (W1.cell? ⟨w.heap.size, j, none⟩).isSome = true := fun j hj => by
    rw [hW1, World.cell?_alloc_at (w := w.drew) ROW _ w.heap.size j rfl, Array.getElem?_eq_getElem (by omega)]; rfl
  have hNf : ∀ j, W1.frozen? ⟨w.heap.size, j, none⟩ = false := fun j => by rw [hW1]; exact World.frozen?_alloc_at (w := w.drew) ROW _ w.heap.size j rfl
  have hOb : ∀ j v, w.cell? ⟨g, j, none⟩ = some v → W1.cell? ⟨g, j, none⟩ = some v := fun j v h => by rw [hW1, World.cell?_alloc_past (w := w.drew) _ g j hbw]; exact h
  have hOv : W1.cell? ⟨vb, 0, none⟩ = some (.int .u64 x) := by rw [hW1, World.cell?_alloc_past (w := w.drew) _ vb 0 hvw]; exact hvc
  have hcpA : ∀ (W : World), (∀ x, W.cell? x = W1.cell? x) → (∀ x, W.frozen? x = W1.frozen? x) → ∀ ty dc, (Builtin.copy_ #[174, 173] ty #[.slice (some ⟨w.heap.size, 0, none⟩) (n + 1) dc, .slice (some ⟨vb, 0, none⟩) 1 cv]).run Tryz.prog W = .ok (goInt 1) (W.setCells w.heap.size 0 [.int .u64 x]) := fun W hWc hWf ty dc =>
    run_copy_cells W _ _ ty 205 w.heap.size 0 (n + 1) dc ⟨vb, 0, none⟩ 1 cv [.int .u64 x] Tryz.underlying174 hsz (by simp only [List.length_cons, List.length_nil, Nat.min_def]; split <;> omega)
      (fun j v hj => by
        rw [Addr.add_lit, hWc]
        cases j with
        | zero => simp at hj; subst hj; exact hOv
        | succ j => simp at hj)
      (fun j hj => by rw [hWc]; exact hN _ (by simp at hj; omega)) (fun j hj => by rw [hWf]; exact hNf _) (fun v hv => by simp at hv; subst hv; rfl)
  have hGn : n + 1 ≤ G := by rw [hG]; exact grownCap_ge w _ _ _
  have hG63 : G ≤ 9223372036854775807 := by
    have := grownCap_le_maxLen w (n + 1) c 205 (by unfold maxLen; omega)
    rw [← hG] at this
    unfold maxLen at this
    omega
  have hGi : ¬ (G = 0) := by omega
  have hGim : ¬ (G = 1) := by omega
  have hci : ¬ (c = 0) := by omega
  have hbN : g ≠ w.heap.size := by omega
  have hcpB : ∀ (W : World), (∀ y, W.cell? y = (W1.setCells w.heap.size 0 [.int .u64 x]).cell? y) → (∀ y, W.frozen? y = (W1.setCells w.heap.size 0 [.int .u64 x]).frozen? y) → ∀ ty dc sc, (Builtin.copy_ #[174, 174] ty #[.slice (some ⟨w.heap.size, 1, none⟩) n dc, .slice (some ⟨g, 0, none⟩) n sc]).run Tryz.prog W = .ok (goInt cs.length) (W.setCells w.heap.size 1 cs) := fun W hWc hWf ty dc sc =>
    run_copy_cells W _ _ ty 205 w.heap.size 1 n dc ⟨g, 0, none⟩ n sc cs Tryz.underlying174 hsz (by rw [hcl]; simp only [Nat.min_def]; split <;> omega)
      (fun j v hj => by
        rw [Addr.add_lit, hWc, World.cell?_setCells_out _ _ _ _ _ (fun h _ => absurd h hbN), Nat.zero_add]
        exact hOb _ v (hcs j v hj))
      (fun j hj => by rw [hWc]; exact isSome_setCells w.heap.size [.int .u64 x] 0 W1 (fun t ht => hN _ (by simp at ht; omega)) _ (hN (1 + j) (by omega)))
      (fun j hj => by rw [hWf, World.frozen?_setCells]; exact hNf _) h1c
  subst hW1
  have hE1 : ∀ x, ((w.alloc (.cells ROW 205)).drew).cell? x = (w.drew.alloc (.cells ROW 205)).cell? x := fun x => rfl
  have hE2 : ∀ x, ((w.alloc (.cells ROW 205)).drew).frozen? x = (w.drew.alloc (.cells ROW 205)).frozen? x := fun x => rfl
  have hF1 : ∀ y, (((w.alloc (.cells ROW 205)).drew.setCells w.heap.size 0 [.int .u64 x]).drew).cell? y = ((w.drew.alloc (.cells ROW 205)).setCells w.heap.size 0 [.int .u64 x]).cell? y := fun x => rfl
  have hF2 : ∀ y, (((w.alloc (.cells ROW 205)).drew.setCells w.heap.size 0 [.int .u64 x]).drew).frozen? y = ((w.drew.alloc (.cells ROW 205)).setCells w.heap.size 0 [.int .u64 x]).frozen? y := fun x => rfl
  have hw1 : IntKind.i64.wrap ((n : Int) + 1) = (n : Int) + 1 := by rw [IntKind.wrap_i64]; have : (n : Int) + 1 ≤ 9223372036854775807 := by omega
                                                                    omega
  have hz2 : ((0 : Int) == (n : Int)) = false := beq_eq_false_iff_ne.mpr (by omega)
  have hz3 : ¬ ((0 : Int) = (n : Int)) := by omega
  have mixed : Tryz.prog.follows .mixedOrders = true := by kernel_rfl
  have hwr : IntKind.i64.wrap 1 = 1 := by decide
  have hb3 : (1 : Int) ≤ (n : Int) + 1 := by omega
  have hb4 : (0 : Int) ≤ 1 := by omega
  have hb5 : (0 : Int) ≤ (n : Int) := by omega
  have hb6 : (0 : Int) ≤ (n : Int) + 1 := by omega
  have ht1 : (1 : Int).toNat = 1 := rfl
  clear hkk hold hROW hG hRl
  go_enter Tryz.func234, Tryz.ntmps234
  go_wp2_with (first
    | (at_builtin; refine Lib.wpList_append_run _ rfl _ _ _ _ rfl _ _ rfl rfl _ _ (hrz _) ?_)
    | (at_builtin; refine wpList_copy_runI _ rfl _ _ 174 173 rfl _ _ rfl rfl (hcpA _ hE1 hE2 _ _) ?_))
  go_region_law_o (refine step_copy_runI rfl _ _ 174 174 rfl (.slice (some ⟨w.heap.size, 1, none⟩) n (G - 1)) (.slice (some ⟨g, 0, none⟩) n c) (by simp [Act.eval, Act.put]) (by simp [Act.eval, Act.put]) (hcpB _ hF1 hF2 3 (G - 1) c) ?_)
  go_wp2
  go_ret
  exact ⟨rfl, rfl⟩
theorem own_of_cells {w : World} {B g c : Nat} {cur : Array Value} {ys : List Int} (hB : B ≤ g) (hh : w.heap[g]? = some (.cells cur 205 (0, 0))) (hn : ys.length ≤ c) (hmx : c ≤ maxLen) (hs : cur.size = c) (ht : ∀ j, j < ys.length → cur[j]? = (nums .u64 ys)[j]?) :
    w.ownsRow B 205 1 (.slice (some ⟨g, 0, none⟩) ys.length c) ys.length (nums .u64 ys) := by
  refine ⟨by simp [nums], .inr ⟨g, c, cur, rfl, hB, hh, hn, hmx, by omega, ?_⟩⟩
  apply List.ext_getElem?
  intro j
  rw [List.getElem?_take]
  by_cases hj : j < ys.length
  · rw [if_pos (by omega), ← ht j hj]
    simp
  · rw [if_neg (by omega), List.getElem?_eq_none (by simp [nums]; omega)]
theorem nums_cons (x : Int) (xs : List Int) (j : Nat) : (nums .u64 (x :: xs))[j]? = if j = 0 then some (.int .u64 x) else (nums .u64 xs)[j - 1]? := by
  cases j with
  | zero => rfl
  | succ j => rfl
theorem insertR (x : Int) (xs : List Int) (v : Value) (vb B cv : Nat) (ar : Array Value) (har : ar[0]? = some (.int .u64 x)) (ok : Nat → Prop) (w : World) (hR : Kd.R (Kd.int .u64) 205 w B ok v xs) (hfresh : ∀ k, w.heap.size ≤ k → ok k) (hvb : w.heap[vb]? = some (.cells ar 205 (0, 0))) (hne : v.ownBlock ≠ some vb) (hBw : B ≤ w.heap.size) (hl : xs.length ≤ 1000000) :
    Calls Tryz.prog 234 #[v, .int .i64 0, .slice (some ⟨vb, 0, none⟩) 1 cv] w fun e w' => ∃ v', e = .returned v' ∧ Kd.R (Kd.int .u64) 205 w' B ok v' (x :: xs) ∧ w.grownBy w' v.ownBlock := by
  have h1 := own_of_R hR
  have grow : ∀ (G : Nat) (ROW : Array Value) (W : World) (row : Option Nat), W.heap[w.heap.size]? = some (.cells ROW 205 (0, 0)) → xs.length + 1 ≤ G → G ≤ maxLen → ROW.size = G → (∀ j, j < xs.length + 1 → ROW[j]? = (nums .u64 (x :: xs))[j]?) → w.grownBy W row →
      ∃ v', (Ending.returned (.slice (some ⟨w.heap.size, 0, none⟩) (xs.length + 1) G) : Ending) = .returned v' ∧ Kd.R (Kd.int .u64) 205 W B ok v' (x :: xs) ∧ w.grownBy W row := fun G ROW W row h2 h3 h4 h5 h6 h7 =>
    ⟨_, rfl, R_of_own (own_of_cells hBw h2 (by simpa using h3) h4 h5 (fun j hj => h6 j (by simpa using hj))) (fun k hk => hfresh k (Nat.le_of_eq (by simpa [Value.ownBlock] using hk))), h7⟩
  have hal : ∀ o : Obj, w.grownBy (w.drew.alloc o) v.ownBlock := fun o => grown_of_below ((pw_below_drewN (Below.refl _ w) 1).alloc (Nat.le_refl _) o) _
  rcases h1.2 with ⟨rfl, h0⟩ | ⟨g, c, cur, rfl, hg, hh, hn, hmx, hs, ht⟩
  · have hx0 : xs = [] := List.length_eq_zero_iff.1 h0
    subst hx0
    refine (insert_first_grow none vb cv ar x har w hvb).mono ?_
    rintro e w' ⟨rfl, rfl⟩
    have hG := grownCap_ge w 1 0 205
    have hGm := grownCap_le_maxLen w 1 0 205 (by unfold maxLen; omega)
    refine grow _ _ _ _ (heap_alloc_new w.drew _) hG hGm (by simp [Builtin.zeroCells, Value.cells]; omega) (fun j hj => ?_) (hal _)
    have : j = 0 := by simp at hj; exact hj
    subst this
    rw [Array.getElem?_append_left (by simp)]
    rfl
  · have hs1 : cur.size = c := by omega
    have hvg : vb ≠ g := fun e => hne (by subst e; rfl)
    have hcell : ∀ j, w.cell? ⟨g, j, none⟩ = cur[j]? := fun j => by simp [World.cell?, hh]
    have hfz : ∀ j, w.frozen? ⟨g, j, none⟩ = false := fun j => by simp [World.frozen?, hh]
    have hcs : ∀ j v, (nums .u64 xs)[j]? = some v → w.cell? ⟨g, j, none⟩ = some v := fun j v hj => by
      rw [hcell, ← hj, ← ht, List.getElem?_take]
      have : j < xs.length := by
        have := (List.getElem?_eq_some_iff.1 hj).1
        simpa [nums] using this
      rw [if_pos (by omega)]
      simp
    have h1c : ∀ v ∈ nums .u64 xs, v.oneCell' = true := fun v hv => by
      simp only [nums, List.mem_map] at hv
      obtain ⟨y, _, rfl⟩ := hv
      rfl
    have hnl : (nums .u64 xs).length = xs.length := by simp [nums]
    have hgw : g < w.heap.size := (Array.getElem?_eq_some_iff.1 hh).1
    have hc63 : c ≤ 9223372036854775807 := by unfold maxLen at hmx; omega
    have hokg : ok g := hR.1 g rfl
    by_cases hr : xs.length + 1 ≤ c
    · have fin : ∀ W, (∃ cur', W.heap[g]? = some (.cells cur' 205 (0, 0)) ∧ cur'.size = cur.size ∧ ∀ j, j < xs.length + 1 → cur'[j]? = (nums .u64 (x :: xs))[j]?) → w.grownBy W (some g) →
          ∃ v', (Ending.returned (.slice (some ⟨g, 0, none⟩) (xs.length + 1) c) : Ending) = .returned v' ∧ Kd.R (Kd.int .u64) 205 W B ok v' (x :: xs) ∧ w.grownBy W (some g) := fun W hW hg2 => by
        obtain ⟨cur', e1, e2, e3⟩ := hW
        exact ⟨_, rfl, R_of_own (own_of_cells hg e1 (by simpa using hr) hmx (by omega) (fun j hj => e3 j (by simpa using hj))) (fun k hk => (show g = k by simpa [Value.ownBlock] using hk) ▸ hokg), hg2⟩
      by_cases h0 : xs = []
      · subst h0
        refine (insert_first_room g c vb cv ar x har w (by simpa using hr) hc63 (by rw [hcell, Array.getElem?_eq_getElem (by simp at hr; omega)]; rfl) (hfz 0) hvb).mono ?_
        rintro e w' ⟨rfl, rfl⟩
        obtain ⟨cur', e1, e2, e3⟩ := setCells_row g 205 [.int .u64 x] 0 w cur hh
        refine fin _ ⟨cur', e1, e2, fun j hj => ?_⟩ (setCells_grown _ _ _ _)
        have : j = 0 := by simp at hj; exact hj
        subst this
        rw [e3 0 (by simp at hr; omega)]
        simp [nums]
      · refine (insert_shift g xs.length c vb cv ar x har (nums .u64 xs) w (List.length_pos_iff.mpr h0) hr hc63 hvg hnl hcs (fun j hj => by rw [hcell, Array.getElem?_eq_getElem (by omega)]; rfl) hfz hvb h1c cur.size (by simp [World.shape?, hh]) (by omega)).mono ?_
        rintro e w' ⟨rfl, rfl⟩
        obtain ⟨cur1, e1, e2, e3⟩ := setCells_row g 205 (nums .u64 xs) 1 w.drew cur hh
        obtain ⟨cur2, d1, d2, d3⟩ := setCells_row g 205 [.int .u64 x] 0 _ cur1 e1
        refine fin _ ⟨cur2, d1, by omega, fun j hj => ?_⟩ ?_
        · rw [d3 j (by omega), nums_cons]
          by_cases hj0 : j = 0
          · subst hj0
            simp
          · rw [if_neg (by simp only [List.length_cons, List.length_nil]; omega), if_neg hj0, e3 j (by omega), if_pos (by omega)]
        · have k1 := setCells_grown w.drew g 1 (nums .u64 xs)
          have k2 := setCells_grown (w.drew.setCells g 1 (nums .u64 xs)) g 0 [.int .u64 x]
          exact ⟨k2.os.trans k1.os, k2.tape.trans k1.tape, k2.output.trans k1.output, Nat.le_trans k1.size k2.size, fun k hk hn => (k2.block k (Nat.lt_of_lt_of_le hk k1.size) hn).trans (k1.block k hk hn)⟩
    · have hce : c = xs.length := by omega
      by_cases h0 : xs = []
      · subst h0
        have hc0 : c = 0 := by simpa using hce
        subst hc0
        refine (insert_first_grow (some ⟨g, 0, none⟩) vb cv ar x har w hvb).mono ?_
        rintro e w' ⟨rfl, rfl⟩
        have hG := grownCap_ge w 1 0 205
        have hGm := grownCap_le_maxLen w 1 0 205 (by unfold maxLen; omega)
        refine grow _ _ _ _ (heap_alloc_new w.drew _) hG hGm (by simp [Builtin.zeroCells, Value.cells]; omega) (fun j hj => ?_) (hal _)
        have : j = 0 := by simp at hj; exact hj
        subst this
        rw [Array.getElem?_append_left (by simp)]
        rfl
      · refine (insert_grow g xs.length c vb cv ar x har (nums .u64 xs) w (List.length_pos_iff.mpr h0) hn (by omega) (by omega) hnl hcs hvb h1c).mono ?_
        rintro e w' ⟨rfl, rfl⟩
        have hG := grownCap_ge w (xs.length + 1) c 205
        have hGm := grownCap_le_maxLen w (xs.length + 1) c 205 (by unfold maxLen; omega)
        obtain ⟨G, hGe⟩ : ∃ G, G = grownCap w (xs.length + 1) c 205 := ⟨_, rfl⟩
        rw [← hGe] at hG hGm ⊢
        obtain ⟨ROW, hROW⟩ : ∃ ROW : Array Value, ROW = Builtin.zeroCells (Value.int .u64 0).cells (xs.length + 1) ++ Builtin.zeroCells (Value.int .u64 0).cells (G - (xs.length + 1)) := ⟨_, rfl⟩
        have hRs : ROW.size = G := by rw [hROW]; simp [Builtin.zeroCells, Value.cells]; omega
        rw [← hROW]
        have n0 : (w.alloc (.cells ROW 205)).drew.heap[w.heap.size]? = some (.cells ROW 205 (0, 0)) := heap_alloc_new w (.cells ROW 205)
        obtain ⟨cur1, e1, e2, e3⟩ := setCells_row w.heap.size 205 [.int .u64 x] 0 (w.alloc (.cells ROW 205)).drew ROW n0
        obtain ⟨cur2, d1, d2, d3⟩ := setCells_row w.heap.size 205 (nums .u64 xs) 1 ((w.alloc (.cells ROW 205)).drew.setCells w.heap.size 0 [.int .u64 x]).drew cur1 e1
        refine grow G cur2 _ _ d1 hG hGm (by omega) (fun j hj => ?_) ?_
        · rw [d3 j (by omega), nums_cons]
          by_cases hj0 : j = 0
          · subst hj0
            rw [if_neg (by omega), e3 0 (by omega)]
            simp
          · rw [if_neg hj0, if_pos (by omega)]
        · have k0 : w.grownBy (w.alloc (.cells ROW 205)) (some w.heap.size) := grown_of_below ((Below.refl _ w).alloc (Nat.le_refl _) _) _
          have k1 := setCells_grown (w.alloc (.cells ROW 205)).drew w.heap.size 0 [.int .u64 x]
          have k2 := setCells_grown ((w.alloc (.cells ROW 205)).drew.setCells w.heap.size 0 [.int .u64 x]).drew w.heap.size 1 (nums .u64 xs)
          have hsz0 : w.heap.size ≤ (w.alloc (.cells ROW 205)).drew.heap.size := k0.size
          refine ⟨k2.os.trans (k1.os.trans k0.os), k2.tape.trans (k1.tape.trans k0.tape), k2.output.trans (k1.output.trans k0.output), Nat.le_trans hsz0 (Nat.le_trans k1.size k2.size), fun k hk _ => ?_⟩
          have hkn : some k ≠ some w.heap.size := fun e => by have := Option.some.inj e; omega
          exact (k2.block k (Nat.lt_of_lt_of_le hk (Nat.le_trans hsz0 k1.size)) hkn).trans ((k1.block k (Nat.lt_of_lt_of_le hk hsz0) hkn).trans (k0.block k hk hkn))
end Go.Proofs.YtkhgpnbhnipndaaGreatDoor.Hd
end
