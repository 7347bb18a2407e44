/- What the law leans on, part 32: declarations of several texts of ours, in their order. -/
import Derived.Test.YtcpaajecppplhaaGreatDoorXN27
import Derived.Test.YtcpaajecppplhaaGreatDoorXN29
import Derived.Test.YtcpaajecppplhaaGreatDoorXN30
section
/- num.divided: a number divided by another one, rounded down, and what is left, at all numbers of 900 figures at most. -/
namespace Go.Proofs.YtcpaajecppplhaaGreatDoor.Hd
open Go.RowKit Go.Proofs.YtcpaajecppplhaaGreatDoorW.PrintWords Go.Proofs.YtcpaajecppplhaaGreatDoorW.PrintLast Go.Proofs.YtcpaajecppplhaaGreatDoorW.PrintMore Go.Proofs.YtcpaajecppplhaaGreatDoor.B Go.Lib Go.Shelf Go.Proofs.YtcpaajecppplhaaGreatDoor.Nm
set_option linter.unusedVariables false
set_option linter.unusedSimpArgs false
/-- what divided tells: sizes and signs -/
def divW (x : Nat) (a : Bool) (y : Nat) (b : Bool) : (Nat × Bool) × (Nat × Bool) :=
  if 0 < x % y ∧ a ≠ b then (plusW (x / y) ((a != b) && decide (0 < x / y)) 1 true, plusW (x % y) (a && decide (0 < x % y)) y b)
  else ((x / y, (a != b) && decide (0 < x / y)), (x % y, a && decide (0 < x % y)))
theorem mg_len0 (n : Nat) : decide (0 < (il (mg n)).length) = decide (0 < n) := by
  have h : (mg n).length = 0 ↔ n = 0 := by rw [List.length_eq_zero_iff]; exact mg_nil
  rw [il_len]
  by_cases hn : n = 0
  · rw [h.2 hn, hn]
  · rw [decide_eq_true (by omega), decide_eq_true (by omega)]
theorem hold_b {w w' : World} {b t : Nat} {cs : Array Value} (h : w.heap[b]? = some (.cells cs t (0, 0))) (hb : Below w.heap.size w w') : w'.heap[b]? = some (.cells cs t (0, 0)) := (hb.block b (Array.getElem?_eq_some_iff.1 h).1).trans h
theorem cell_drew0 {X : World} {b t : Nat} {u v : Value} (h : X.heap[b]? = some (.cells #[u, v] t (0, 0))) : X.drew.cell? ⟨b, 0, none⟩ = some u := Lib.cell_of_heap (w := X.drew) h 0
theorem cell_drew1 {X : World} {b t : Nat} {u v : Value} (h : X.heap[b]? = some (.cells #[u, v] t (0, 0))) : X.drew.cell? ⟨b, 1, none⟩ = some v := Lib.cell_of_heap (w := X.drew) h 1
theorem results_whole2 {fn : Func} {p q : Tmp} (h : fn.results = #[.cell p 161, .cell q 161]) (tmps : Array Value) (w : World) (b4 b5 : Nat) (v1 v2 : Value) (x1 x2 : Bool) (h1 : v1.oneCell' = true) (h2 : v2.oneCell' = true) (hp : tmps.getD p undef = .pointer (some ⟨b4, 0, none⟩)) (hq : tmps.getD q undef = .pointer (some ⟨b5, 0, none⟩))
    (c40 : w.cell? ⟨b4, 0, none⟩ = some v1) (c41 : w.cell? ⟨b4, 1, none⟩ = some (.bool x1)) (c50 : w.cell? ⟨b5, 0, none⟩ = some v2) (c51 : w.cell? ⟨b5, 1, none⟩ = some (.bool x2)) : (results fn tmps).run Tryz.prog w = .ok (.tuple #[.agg #[v1, .bool x1], .agg #[v2, .bool x2]]) w := by
  have hp' : tmps[p]?.getD undef = .pointer (some ⟨b4, 0, none⟩) := by simpa using hp
  have hq' : tmps[q]?.getD undef = .pointer (some ⟨b5, 0, none⟩) := by simpa using hq
  have u := Tryz.underlying161
  have a := Tryz.isAgg161
  simp [results, h, hp', hq', asAddr, go_sem, c40, c41, c50, c51, u, a]
theorem results_whole1 {fn : Func} {p : Tmp} (h : fn.results = #[.cell p 161]) (tmps : Array Value) (w : World) (b4 : Nat) (v1 : Value) (x1 : Bool) (h1 : v1.oneCell' = true) (hp : tmps.getD p undef = .pointer (some ⟨b4, 0, none⟩))
    (c40 : w.cell? ⟨b4, 0, none⟩ = some v1) (c41 : w.cell? ⟨b4, 1, none⟩ = some (.bool x1)) : (results fn tmps).run Tryz.prog w = .ok (.agg #[v1, .bool x1]) w := by
  have hp' : tmps[p]?.getD undef = .pointer (some ⟨b4, 0, none⟩) := by simpa using hp
  have u := Tryz.underlying161
  have a := Tryz.isAgg161
  simp [results, h, hp', asAddr, go_sem, c40, c41, u, a]
end Go.Proofs.YtcpaajecppplhaaGreatDoor.Hd
end
section
/- num.divided, where nothing is to be adjusted. -/
namespace Go.Proofs.YtcpaajecppplhaaGreatDoor.Hd
open Go.RowKit Go.Proofs.YtcpaajecppplhaaGreatDoorW.PrintWords Go.Proofs.YtcpaajecppplhaaGreatDoorW.PrintLast Go.Proofs.YtcpaajecppplhaaGreatDoorW.PrintMore Go.Proofs.YtcpaajecppplhaaGreatDoor.B Go.Lib Go.Shelf Go.Proofs.YtcpaajecppplhaaGreatDoor.Nm
set_option linter.unusedVariables false
set_option linter.unusedSimpArgs false
set_option maxHeartbeats 8000000 in
set_option maxRecDepth 100000 in
theorem divided_plain (X Y : Nat) (hY : 0 < Y) (a b : Bool) (A0 A1 : Option Addr) (c0 c1 : Nat) (l0 l1 : List Int) (w : World) (h0 : l0 = il (mg X)) (h1 : l1 = il (mg Y)) (hr0 : Kd.C (Kd.int .u64) w A0 l0.length l0) (hr1 : Kd.C (Kd.int .u64) w A1 l1.length l1) (hc1 : l1.length ≤ c1) (hX : (decDigits X).length ≤ 900) (hYd : (decDigits Y).length ≤ 900) (hadj : ¬ (0 < X % Y ∧ a ≠ b)) :
    Calls Tryz.prog 164 #[.agg #[.slice A0 l0.length c0, .bool a], .agg #[.slice A1 l1.length c1, .bool b]] w fun e w' => ∃ v1 v2, e = .returned (.tuple #[.agg #[v1, .bool (divW X a Y b).1.2], .agg #[v2, .bool (divW X a Y b).2.2]]) ∧
      Kd.V (Kd.int .u64) 188 w' w.heap.size (fun k_ => w.heap.size ≤ k_) v1 (il (mg (divW X a Y b).1.1)) ∧ Kd.V (Kd.int .u64) 188 w' w.heap.size (fun k_ => w.heap.size ≤ k_) v2 (il (mg (divW X a Y b).2.1)) ∧ Below w.heap.size w w' := by
  have HR0 := Aside0.mk hr0
  have HR1 := Aside0.mk hr1
  have HC1 := Aside0.mk hc1
  have E0 := Aside0.mk h0
  have E1 := Aside0.mk h1
  have HY := Aside0.mk hY
  have HX := Aside0.mk hX
  have HYD := Aside0.mk hYd
  have hlx : l0.length ≤ 50000 := by rw [h0, il_len]; have := mg_len_nl hX; omega
  have hly : l1.length ≤ 50000 := by rw [h1, il_len]; have := mg_len_nl hYd; omega
  have HLX := Aside0.mk hlx
  have HLY := Aside0.mk hly
  clear hr0 hr1 hc1 h0 h1 hY hX hYd hlx hly
  have mixed : Tryz.prog.follows .mixedOrders = true := by kernel_rfl
  obtain ⟨V, hV⟩ : ∃ V, V = ((((w.alloc (.cells #[.slice A0 l0.length c0, .bool a] 161)).alloc (.cells #[.slice A1 l1.length c1, .bool b] 161)).alloc (.cells #[.slice none 0 0, .bool false] 161)).alloc (.cells #[.slice none 0 0, .bool false] 161) : World) := ⟨_, rfl⟩
  have hVs : V.heap.size = w.heap.size + 4 := by rw [hV]; simp
  have hBV : Below w.heap.size w V := by
    rw [hV]
    exact ((((Below.refl _ w).alloc (Nat.le_refl _) _).alloc (by simp) _).alloc (by simp; omega) _).alloc (by simp; omega) _
  have v0 : V.heap[w.heap.size]? = some (.cells #[.slice A0 l0.length c0, .bool a] 161 (0, 0)) := by
    rw [hV, heap_alloc_old _ _ (by simp <;> omega), heap_alloc_old _ _ (by simp <;> omega), heap_alloc_old _ _ (by simp), heap_alloc_new]
  have v1 : V.heap[w.heap.size + 1]? = some (.cells #[.slice A1 l1.length c1, .bool b] 161 (0, 0)) := by
    rw [hV, heap_alloc_old _ _ (by simp <;> omega), heap_alloc_old _ _ (by simp)]
    have := heap_alloc_new (w.alloc (.cells #[.slice A0 l0.length c0, .bool a] 161)) (.cells #[.slice A1 l1.length c1, .bool b] 161)
    rwa [World.size_alloc] at this
  have v2 : V.heap[w.heap.size + 1 + 1]? = some (.cells #[.slice none 0 0, .bool false] 161 (0, 0)) := by
    rw [hV, heap_alloc_old _ _ (by simp)]
    have := heap_alloc_new ((w.alloc (.cells #[.slice A0 l0.length c0, .bool a] 161)).alloc (.cells #[.slice A1 l1.length c1, .bool b] 161)) (.cells #[.slice none 0 0, .bool false] 161)
    rwa [World.size_alloc, World.size_alloc] at this
  have v3 : V.heap[w.heap.size + 1 + 1 + 1]? = some (.cells #[.slice none 0 0, .bool false] 161 (0, 0)) := by
    rw [hV]
    have := heap_alloc_new (((w.alloc (.cells #[.slice A0 l0.length c0, .bool a] 161)).alloc (.cells #[.slice A1 l1.length c1, .bool b] 161)).alloc (.cells #[.slice none 0 0, .bool false] 161)) (.cells #[.slice none 0 0, .bool false] 161)
    rwa [World.size_alloc, World.size_alloc, World.size_alloc] at this
  have HQ := Aside0.mk ((quotient_walk X Y HY.out _ _ c0 _ l0 l1 V E0.out E1.out (Kd.C_below HR0.out hBV) (Kd.C_below HR1.out hBV) HC1.out HLX.out HLY.out).mono (R' := fun e W1 => ∃ A2 n2 c2 A3 n3 c3, e = .returned (.tuple #[.slice A2 n2 c2, .slice A3 n3 c3]) ∧ Aside0 (n2 = (il (mg (X / Y))).length ∧ n3 = (il (mg (X % Y))).length ∧ Kd.V (Kd.int .u64) 188 W1 w.heap.size (fun k_ => w.heap.size + 4 ≤ k_) (.slice A2 n2 c2) (il (mg (X / Y))) ∧ Kd.V (Kd.int .u64) 188 W1 w.heap.size (fun k_ => w.heap.size + 4 ≤ k_) (.slice A3 n3 c3) (il (mg (X % Y))) ∧ Below V.heap.size V W1)) (by
    rintro e W1 ⟨qv, rv, rfl, hq, hr, hb⟩
    obtain ⟨A2, c2, rfl⟩ := Kd.R_slice hq
    obtain ⟨A3, c3, rfl⟩ := Kd.R_slice hr
    exact ⟨A2, _, c2, A3, _, c3, rfl, ⟨rfl, rfl, Kd.V_mono (Kd.R_V hq) (fun k hk => by omega), Kd.V_mono (Kd.R_V (Kd.R_bound hr)) (fun k hk => by have := hk.2.1; omega), hb⟩⟩))
  rw [hV] at HQ
  have hu := Tryz.underlying161
  have hdw : ∀ n : Nat, decide ((0 : Int) < (n : Int)) = decide (0 < n) := fun n => by by_cases h : 0 < n <;> simp [h]
  have hdv : divW X a Y b = ((X / Y, (a != b) && decide (0 < X / Y)), (X % Y, a && decide (0 < X % Y))) := if_neg hadj
  have HDV := Aside0.mk hdv
  clear hdv
  rcases Nat.eq_zero_or_pos (X % Y) with hz | hz
  · cases a <;> cases b
    · clear hadj
      go_enter Tryz.func164, Tryz.ntmps164
      go_wp2_with (go_at_call 199; refine HQ.out.mono ?_; rintro e W1 ⟨A2, n2, c2, A3, n3, c3, rfl, HS⟩; have hb := HS.out.2.2.2.2; rw [← hV] at hb; have p0 := hold_b v0 hb; have p1 := hold_b v1 hb; have p2 := hold_b v2 hb; have p3 := hold_b v3 hb; have HP := Aside0.mk (And.intro p0 (And.intro p1 (And.intro p2 (And.intro p3 hb)))); have g0 := Lib.cell_of_heap p0 1; have g1 := Lib.cell_of_heap p1 1; have G0 : ∀ o1 o2, ((W1.alloc o1).alloc o2).cell? ⟨w.heap.size, 1, none⟩ = _ := (fun o1 o2 => ((((Below.refl _ W1).alloc (Nat.le_refl _) o1).alloc (by simp) o2).cell (p := ⟨w.heap.size, 1, none⟩) (Array.getElem?_eq_some_iff.1 p0).1).trans g0); have G1 : ∀ o1 o2, ((W1.alloc o1).alloc o2).cell? ⟨w.heap.size + 1, 1, none⟩ = _ := (fun o1 o2 => ((((Below.refl _ W1).alloc (Nat.le_refl _) o1).alloc (by simp) o2).cell (p := ⟨w.heap.size + 1, 1, none⟩) (Array.getElem?_eq_some_iff.1 p1).1).trans g1); (have hn3 : decide ((0 : Int) < (n3 : Int)) = decide (0 < X % Y) := (by rw [hdw, HS.out.2.1, mg_len0])); rw [decide_eq_false (show ¬ 0 < X % Y by omega)] at hn3; (have hn3p := of_decide_eq_false hn3); clear hb p0 p1 p2 p3)
      obtain ⟨W2, hW2⟩ : ∃ W2, W2 = ((W1.alloc (.cells #[.slice A2 n2 c2, .bool false] 161)).alloc (.cells #[.slice A3 n3 c3, .bool false] 161) : World) := ⟨_, rfl⟩
      have B8 : W2.heap[W1.heap.size]? = some (.cells #[.slice A2 n2 c2, .bool false] 161 (0, 0)) := by rw [hW2, heap_alloc_old _ _ (by simp), heap_alloc_new]
      have B9 : W2.heap[W1.heap.size + 1]? = some (.cells #[.slice A3 n3 c3, .bool false] 161 (0, 0)) := by
        rw [hW2]
        have := heap_alloc_new (W1.alloc (.cells #[.slice A2 n2 c2, .bool false] 161)) (.cells #[.slice A3 n3 c3, .bool false] 161)
        rwa [World.size_alloc] at this
      have hb2 : Below W1.heap.size W1 W2 := by rw [hW2]; exact ((Below.refl _ W1).alloc (Nat.le_refl _) _).alloc (by simp) _
      rw [← hW2]
      clear hW2 G0 G1 g0 g1
      have P2 := hold_b HP.out.2.2.1 hb2
      have P3 := hold_b HP.out.2.2.2.1 hb2
      have hsz1 : w.heap.size + 4 ≤ W1.heap.size := by have := HP.out.2.2.2.2.size; omega
      have c80 : W2.cell? ⟨W1.heap.size, 0, none⟩ = some (.slice A2 n2 c2) := Lib.cell_of_heap B8 0
      have c81 : W2.cell? ⟨W1.heap.size, 1, none⟩ = some (.bool false) := Lib.cell_of_heap B8 1
      have c90 : W2.cell? ⟨(W1.heap.size + 1), 0, none⟩ = some (.slice A3 n3 c3) := Lib.cell_of_heap B9 0
      have c91 : W2.cell? ⟨(W1.heap.size + 1), 1, none⟩ = some (.bool false) := Lib.cell_of_heap B9 1
      have far : ∀ (U : World) (b j i : Nat) (u : Value), b ≠ i → (U.setCell ⟨b, j, none⟩ u).heap[i]? = U.heap[i]? := fun U b j i u h => Below.heap_setCell U ⟨b, j, none⟩ u i (fun e => h e.symm)
      have K4 : ∀ i, i ≠ w.heap.size + 1 + 1 → ((W2.setCell ⟨w.heap.size + 1 + 1, 0, none⟩ (.slice A2 n2 c2)).setCell ⟨w.heap.size + 1 + 1, 1, none⟩ (.bool false)).heap[i]? = W2.heap[i]? := fun i h => (far _ _ _ _ _ (fun e => h e.symm)).trans (far _ _ _ _ _ (fun e => h e.symm))
      have F8 := (K4 (W1.heap.size) (by omega)).trans B8
      have F9 := (K4 ((W1.heap.size + 1)) (by omega)).trans B9
      have F3 := (K4 (w.heap.size + 1 + 1 + 1) (by omega)).trans P3
      have e80 := Lib.cell_of_heap F8 0
      have e81 := Lib.cell_of_heap F8 1
      have e90 := Lib.cell_of_heap F9 0
      have e91 := Lib.cell_of_heap F9 1
      have e30 := Lib.cell_of_heap F3 0
      have e31 := Lib.cell_of_heap F3 1
      have d0 := Lib.cell_of_heap P2 0
      have d1 := Lib.cell_of_heap P2 1
      have fz2 : ∀ j, W2.frozen? ⟨w.heap.size + 1 + 1, j, none⟩ = false := fun j => by simp [World.frozen?, P2]
      have fz3 : ∀ j, ((W2.setCell ⟨w.heap.size + 1 + 1, 0, none⟩ (.slice A2 n2 c2)).setCell ⟨w.heap.size + 1 + 1, 1, none⟩ (.bool false)).frozen? ⟨w.heap.size + 1 + 1 + 1, j, none⟩ = false := fun j => by simp [World.frozen?, F3]
      refine region_top (m := 4) (S := fun w' => w'.cell? ⟨W1.heap.size, 0, none⟩ = some (.slice A2 n2 c2) ∧ w'.cell? ⟨W1.heap.size, 1, none⟩ = some (.bool false) ∧ w'.cell? ⟨(W1.heap.size + 1), 0, none⟩ = some (.slice A3 n3 c3) ∧ w'.cell? ⟨(W1.heap.size + 1), 1, none⟩ = some (.bool false)) (ds := [3]) #[false, false, false, false] mixed rfl rfl ⟨c80, c81, c90, c91⟩ (fun hHeld => ?_)
      refine take_ (i := 0) (N := (some 56)) (v := ?_) (a' := ?_) #[true, false, false, false] rfl rfl (by kernel_rfl) (fun _ _ _ h => absurd h.1 (by intro e; cases e)) (Or.inl ⟨by rfl, ?_⟩) hHeld ?_ ?_
      rotate_left
      · intro w' hS
        obtain ⟨s0, s1, s2, s3⟩ := hS; go_simp; (try with_reducible rfl)
      rotate_left
      · simp only [Act.put, List.setIfInBounds_toArray, List.set_cons_zero, List.set_cons_succ]
        rfl
      refine take_ (i := 1) (N := (some 57)) (v := ?_) (a' := ?_) #[true, true, false, false] rfl rfl (by kernel_rfl) (fun _ _ _ h => absurd h.1 (by intro e; cases e)) (Or.inl ⟨by rfl, ?_⟩) hHeld ?_ ?_
      rotate_left
      · intro w' hS
        obtain ⟨s0, s1, s2, s3⟩ := hS; go_simp; (try with_reducible rfl)
      rotate_left
      · simp only [Act.put, List.setIfInBounds_toArray, List.set_cons_zero, List.set_cons_succ]
        rfl
      refine one_ (i := 2) (N := none) #[true, true, true, false] rfl rfl (by kernel_rfl) (by decide) (fun K hK => ?_)
      rw [if_pos (by rfl)]
      unfold Oper.wp
      go_simp
      refine hK.out _ _ ⟨by simpa using e80, by simpa using e81, by simpa using e90, by simpa using e91⟩ (fun hHeld => ?_)
      clear hK K
      refine last_ (i := 3) (N := none) #[true, true, true, true] rfl rfl (by kernel_rfl) (by decide) (fun K hK => ?_)
      rw [if_pos (by rfl)]
      unfold Oper.wp
      go_simp
      refine hK.out _ _ ?_
      clear hK K
      refine done_ (by kernel_rfl) ?_
      refine ⟨rfl, ?_⟩
      go_wp2
      have R4 := blk_put (blk_put P2 0 (.slice A2 n2 c2) rfl) 1 (.bool false) rfl
      have R5 := blk_put (blk_put F3 0 (.slice A3 n3 c3) rfl) 1 (.bool false) rfl
      have R4' : ((((W2.setCell ⟨w.heap.size + 1 + 1, 0, none⟩ (.slice A2 n2 c2)).setCell ⟨w.heap.size + 1 + 1, 1, none⟩ (.bool false)).setCell ⟨w.heap.size + 1 + 1 + 1, 0, none⟩ (.slice A3 n3 c3)).setCell ⟨w.heap.size + 1 + 1 + 1, 1, none⟩ (.bool false)).heap[w.heap.size + 1 + 1]? = _ := ((far _ _ _ _ _ (by omega)).trans (far _ _ _ _ _ (by omega))).trans R4
      have r40 := cell_drew0 R4'
      have r41 := cell_drew1 R4'
      have r50 := cell_drew0 R5
      have r51 := cell_drew1 R5
      refine bodyPost_ret (results_whole2 rfl _ _ (w.heap.size + 1 + 1) (w.heap.size + 1 + 1 + 1) (.slice A2 n2 c2) (.slice A3 n3 c3) false false rfl rfl rfl rfl r40 r41 r50 r51) rfl ?_
      refine ⟨.slice A2 n2 c2, .slice A3 n3 c3, ?_, ?_, ?_, ?_⟩
      · rw [HDV.out]
        show Ending.returned (.tuple #[.agg #[_, .bool _], .agg #[_, .bool _]]) = Ending.returned (.tuple #[.agg #[_, .bool _], .agg #[_, .bool _]])
        rw [show ((false != false) && decide (0 < X / Y)) = false from rfl, show (false && decide (0 < X % Y)) = false from rfl]
      · rw [HDV.out]
        exact Kd.V_mono (Kd.V_drew (Kd.V_far (Kd.V_far (Kd.V_far (Kd.V_far (Kd.V_below HS.out.2.2.1 hb2) (fun k hk => by show _ ≠ _; simp only; omega) _) (fun k hk => by show _ ≠ _; simp only; omega) _) (fun k hk => by show _ ≠ _; simp only; omega) _) (fun k hk => by show _ ≠ _; simp only; omega) _)) (fun k hk => by omega)
      · rw [HDV.out]
        exact Kd.V_mono (Kd.V_drew (Kd.V_far (Kd.V_far (Kd.V_far (Kd.V_far (Kd.V_below HS.out.2.2.2.1 hb2) (fun k hk => by show _ ≠ _; simp only; omega) _) (fun k hk => by show _ ≠ _; simp only; omega) _) (fun k hk => by show _ ≠ _; simp only; omega) _) (fun k hk => by show _ ≠ _; simp only; omega) _)) (fun k hk => by omega)
      · exact below_drew (((((hBV.trans (HP.out.2.2.2.2.mono (by omega))).trans (hb2.mono (by omega))).setCell (by show _ ≤ _; simp only; omega) _).setCell (by show _ ≤ _; simp only; omega) _).setCell (by show _ ≤ _; simp only; omega) _ |>.setCell (by show _ ≤ _; simp only; omega) _)
    · clear hadj
      go_enter Tryz.func164, Tryz.ntmps164
      go_wp2_with (go_at_call 199; refine HQ.out.mono ?_; rintro e W1 ⟨A2, n2, c2, A3, n3, c3, rfl, HS⟩; have hb := HS.out.2.2.2.2; rw [← hV] at hb; have p0 := hold_b v0 hb; have p1 := hold_b v1 hb; have p2 := hold_b v2 hb; have p3 := hold_b v3 hb; have HP := Aside0.mk (And.intro p0 (And.intro p1 (And.intro p2 (And.intro p3 hb)))); have g0 := Lib.cell_of_heap p0 1; have g1 := Lib.cell_of_heap p1 1; have G0 : ∀ o1 o2, ((W1.alloc o1).alloc o2).cell? ⟨w.heap.size, 1, none⟩ = _ := (fun o1 o2 => ((((Below.refl _ W1).alloc (Nat.le_refl _) o1).alloc (by simp) o2).cell (p := ⟨w.heap.size, 1, none⟩) (Array.getElem?_eq_some_iff.1 p0).1).trans g0); have G1 : ∀ o1 o2, ((W1.alloc o1).alloc o2).cell? ⟨w.heap.size + 1, 1, none⟩ = _ := (fun o1 o2 => ((((Below.refl _ W1).alloc (Nat.le_refl _) o1).alloc (by simp) o2).cell (p := ⟨w.heap.size + 1, 1, none⟩) (Array.getElem?_eq_some_iff.1 p1).1).trans g1); (have hn3 : decide ((0 : Int) < (n3 : Int)) = decide (0 < X % Y) := (by rw [hdw, HS.out.2.1, mg_len0])); rw [decide_eq_false (show ¬ 0 < X % Y by omega)] at hn3; (have hn3p := of_decide_eq_false hn3); clear hb p0 p1 p2 p3)
      obtain ⟨W2, hW2⟩ : ∃ W2, W2 = ((W1.alloc (.cells #[.slice A2 n2 c2, .bool (decide (0 < n2))] 161)).alloc (.cells #[.slice A3 n3 c3, .bool false] 161) : World) := ⟨_, rfl⟩
      have B8 : W2.heap[W1.heap.size]? = some (.cells #[.slice A2 n2 c2, .bool (decide (0 < n2))] 161 (0, 0)) := by rw [hW2, heap_alloc_old _ _ (by simp), heap_alloc_new]
      have B9 : W2.heap[W1.heap.size + 1]? = some (.cells #[.slice A3 n3 c3, .bool false] 161 (0, 0)) := by
        rw [hW2]
        have := heap_alloc_new (W1.alloc (.cells #[.slice A2 n2 c2, .bool (decide (0 < n2))] 161)) (.cells #[.slice A3 n3 c3, .bool false] 161)
        rwa [World.size_alloc] at this
      have hb2 : Below W1.heap.size W1 W2 := by rw [hW2]; exact ((Below.refl _ W1).alloc (Nat.le_refl _) _).alloc (by simp) _
      rw [← hW2]
      clear hW2 G0 G1 g0 g1
      have P2 := hold_b HP.out.2.2.1 hb2
      have P3 := hold_b HP.out.2.2.2.1 hb2
      have hsz1 : w.heap.size + 4 ≤ W1.heap.size := by have := HP.out.2.2.2.2.size; omega
      have c80 : W2.cell? ⟨W1.heap.size, 0, none⟩ = some (.slice A2 n2 c2) := Lib.cell_of_heap B8 0
      have c81 : W2.cell? ⟨W1.heap.size, 1, none⟩ = some (.bool (decide (0 < n2))) := Lib.cell_of_heap B8 1
      have c90 : W2.cell? ⟨(W1.heap.size + 1), 0, none⟩ = some (.slice A3 n3 c3) := Lib.cell_of_heap B9 0
      have c91 : W2.cell? ⟨(W1.heap.size + 1), 1, none⟩ = some (.bool false) := Lib.cell_of_heap B9 1
      have far : ∀ (U : World) (b j i : Nat) (u : Value), b ≠ i → (U.setCell ⟨b, j, none⟩ u).heap[i]? = U.heap[i]? := fun U b j i u h => Below.heap_setCell U ⟨b, j, none⟩ u i (fun e => h e.symm)
      have K4 : ∀ i, i ≠ w.heap.size + 1 + 1 → ((W2.setCell ⟨w.heap.size + 1 + 1, 0, none⟩ (.slice A2 n2 c2)).setCell ⟨w.heap.size + 1 + 1, 1, none⟩ (.bool (decide (0 < n2)))).heap[i]? = W2.heap[i]? := fun i h => (far _ _ _ _ _ (fun e => h e.symm)).trans (far _ _ _ _ _ (fun e => h e.symm))
      have F8 := (K4 (W1.heap.size) (by omega)).trans B8
      have F9 := (K4 ((W1.heap.size + 1)) (by omega)).trans B9
      have F3 := (K4 (w.heap.size + 1 + 1 + 1) (by omega)).trans P3
      have e80 := Lib.cell_of_heap F8 0
      have e81 := Lib.cell_of_heap F8 1
      have e90 := Lib.cell_of_heap F9 0
      have e91 := Lib.cell_of_heap F9 1
      have e30 := Lib.cell_of_heap F3 0
      have e31 := Lib.cell_of_heap F3 1
      have d0 := Lib.cell_of_heap P2 0
      have d1 := Lib.cell_of_heap P2 1
      have fz2 : ∀ j, W2.frozen? ⟨w.heap.size + 1 + 1, j, none⟩ = false := fun j => by simp [World.frozen?, P2]
      have fz3 : ∀ j, ((W2.setCell ⟨w.heap.size + 1 + 1, 0, none⟩ (.slice A2 n2 c2)).setCell ⟨w.heap.size + 1 + 1, 1, none⟩ (.bool (decide (0 < n2)))).frozen? ⟨w.heap.size + 1 + 1 + 1, j, none⟩ = false := fun j => by simp [World.frozen?, F3]
      refine region_top (m := 4) (S := fun w' => w'.cell? ⟨W1.heap.size, 0, none⟩ = some (.slice A2 n2 c2) ∧ w'.cell? ⟨W1.heap.size, 1, none⟩ = some (.bool (decide (0 < n2))) ∧ w'.cell? ⟨(W1.heap.size + 1), 0, none⟩ = some (.slice A3 n3 c3) ∧ w'.cell? ⟨(W1.heap.size + 1), 1, none⟩ = some (.bool false)) (ds := [3]) #[false, false, false, false] mixed rfl rfl ⟨c80, c81, c90, c91⟩ (fun hHeld => ?_)
      refine take_ (i := 0) (N := (some 56)) (v := ?_) (a' := ?_) #[true, false, false, false] rfl rfl (by kernel_rfl) (fun _ _ _ h => absurd h.1 (by intro e; cases e)) (Or.inl ⟨by rfl, ?_⟩) hHeld ?_ ?_
      rotate_left
      · intro w' hS
        obtain ⟨s0, s1, s2, s3⟩ := hS; go_simp; (try with_reducible rfl)
      rotate_left
      · simp only [Act.put, List.setIfInBounds_toArray, List.set_cons_zero, List.set_cons_succ]
        rfl
      refine take_ (i := 1) (N := (some 57)) (v := ?_) (a' := ?_) #[true, true, false, false] rfl rfl (by kernel_rfl) (fun _ _ _ h => absurd h.1 (by intro e; cases e)) (Or.inl ⟨by rfl, ?_⟩) hHeld ?_ ?_
      rotate_left
      · intro w' hS
        obtain ⟨s0, s1, s2, s3⟩ := hS; go_simp; (try with_reducible rfl)
      rotate_left
      · simp only [Act.put, List.setIfInBounds_toArray, List.set_cons_zero, List.set_cons_succ]
        rfl
      refine one_ (i := 2) (N := none) #[true, true, true, false] rfl rfl (by kernel_rfl) (by decide) (fun K hK => ?_)
      rw [if_pos (by rfl)]
      unfold Oper.wp
      go_simp
      refine hK.out _ _ ⟨by simpa using e80, by simpa using e81, by simpa using e90, by simpa using e91⟩ (fun hHeld => ?_)
      clear hK K
      refine last_ (i := 3) (N := none) #[true, true, true, true] rfl rfl (by kernel_rfl) (by decide) (fun K hK => ?_)
      rw [if_pos (by rfl)]
      unfold Oper.wp
      go_simp
      refine hK.out _ _ ?_
      clear hK K
      refine done_ (by kernel_rfl) ?_
      refine ⟨rfl, ?_⟩
      go_wp2
      have R4 := blk_put (blk_put P2 0 (.slice A2 n2 c2) rfl) 1 (.bool (decide (0 < n2))) rfl
      have R5 := blk_put (blk_put F3 0 (.slice A3 n3 c3) rfl) 1 (.bool false) rfl
      have R4' : ((((W2.setCell ⟨w.heap.size + 1 + 1, 0, none⟩ (.slice A2 n2 c2)).setCell ⟨w.heap.size + 1 + 1, 1, none⟩ (.bool (decide (0 < n2)))).setCell ⟨w.heap.size + 1 + 1 + 1, 0, none⟩ (.slice A3 n3 c3)).setCell ⟨w.heap.size + 1 + 1 + 1, 1, none⟩ (.bool false)).heap[w.heap.size + 1 + 1]? = _ := ((far _ _ _ _ _ (by omega)).trans (far _ _ _ _ _ (by omega))).trans R4
      have r40 := cell_drew0 R4'
      have r41 := cell_drew1 R4'
      have r50 := cell_drew0 R5
      have r51 := cell_drew1 R5
      refine bodyPost_ret (results_whole2 rfl _ _ (w.heap.size + 1 + 1) (w.heap.size + 1 + 1 + 1) (.slice A2 n2 c2) (.slice A3 n3 c3) (decide (0 < n2)) false rfl rfl rfl rfl r40 r41 r50 r51) rfl ?_
      refine ⟨.slice A2 n2 c2, .slice A3 n3 c3, ?_, ?_, ?_, ?_⟩
      · rw [HDV.out]
        show Ending.returned (.tuple #[.agg #[_, .bool _], .agg #[_, .bool _]]) = Ending.returned (.tuple #[.agg #[_, .bool _], .agg #[_, .bool _]])
        rw [show ((false != true) && decide (0 < X / Y)) = (decide (0 < n2)) from by rw [HS.out.1, mg_len0]; rfl, show (false && decide (0 < X % Y)) = false from rfl]
      · rw [HDV.out]
        exact Kd.V_mono (Kd.V_drew (Kd.V_far (Kd.V_far (Kd.V_far (Kd.V_far (Kd.V_below HS.out.2.2.1 hb2) (fun k hk => by show _ ≠ _; simp only; omega) _) (fun k hk => by show _ ≠ _; simp only; omega) _) (fun k hk => by show _ ≠ _; simp only; omega) _) (fun k hk => by show _ ≠ _; simp only; omega) _)) (fun k hk => by omega)
      · rw [HDV.out]
        exact Kd.V_mono (Kd.V_drew (Kd.V_far (Kd.V_far (Kd.V_far (Kd.V_far (Kd.V_below HS.out.2.2.2.1 hb2) (fun k hk => by show _ ≠ _; simp only; omega) _) (fun k hk => by show _ ≠ _; simp only; omega) _) (fun k hk => by show _ ≠ _; simp only; omega) _) (fun k hk => by show _ ≠ _; simp only; omega) _)) (fun k hk => by omega)
      · exact below_drew (((((hBV.trans (HP.out.2.2.2.2.mono (by omega))).trans (hb2.mono (by omega))).setCell (by show _ ≤ _; simp only; omega) _).setCell (by show _ ≤ _; simp only; omega) _).setCell (by show _ ≤ _; simp only; omega) _ |>.setCell (by show _ ≤ _; simp only; omega) _)
    · clear hadj
      go_enter Tryz.func164, Tryz.ntmps164
      go_wp2_with (go_at_call 199; refine HQ.out.mono ?_; rintro e W1 ⟨A2, n2, c2, A3, n3, c3, rfl, HS⟩; have hb := HS.out.2.2.2.2; rw [← hV] at hb; have p0 := hold_b v0 hb; have p1 := hold_b v1 hb; have p2 := hold_b v2 hb; have p3 := hold_b v3 hb; have HP := Aside0.mk (And.intro p0 (And.intro p1 (And.intro p2 (And.intro p3 hb)))); have g0 := Lib.cell_of_heap p0 1; have g1 := Lib.cell_of_heap p1 1; have G0 : ∀ o1 o2, ((W1.alloc o1).alloc o2).cell? ⟨w.heap.size, 1, none⟩ = _ := (fun o1 o2 => ((((Below.refl _ W1).alloc (Nat.le_refl _) o1).alloc (by simp) o2).cell (p := ⟨w.heap.size, 1, none⟩) (Array.getElem?_eq_some_iff.1 p0).1).trans g0); have G1 : ∀ o1 o2, ((W1.alloc o1).alloc o2).cell? ⟨w.heap.size + 1, 1, none⟩ = _ := (fun o1 o2 => ((((Below.refl _ W1).alloc (Nat.le_refl _) o1).alloc (by simp) o2).cell (p := ⟨w.heap.size + 1, 1, none⟩) (Array.getElem?_eq_some_iff.1 p1).1).trans g1); (have hn3 : decide ((0 : Int) < (n3 : Int)) = decide (0 < X % Y) := (by rw [hdw, HS.out.2.1, mg_len0])); rw [decide_eq_false (show ¬ 0 < X % Y by omega)] at hn3; (have hn3p := of_decide_eq_false hn3); clear hb p0 p1 p2 p3)
      obtain ⟨W2, hW2⟩ : ∃ W2, W2 = ((W1.alloc (.cells #[.slice A2 n2 c2, .bool (decide (0 < n2))] 161)).alloc (.cells #[.slice A3 n3 c3, .bool false] 161) : World) := ⟨_, rfl⟩
      have B8 : W2.heap[W1.heap.size]? = some (.cells #[.slice A2 n2 c2, .bool (decide (0 < n2))] 161 (0, 0)) := by rw [hW2, heap_alloc_old _ _ (by simp), heap_alloc_new]
      have B9 : W2.heap[W1.heap.size + 1]? = some (.cells #[.slice A3 n3 c3, .bool false] 161 (0, 0)) := by
        rw [hW2]
        have := heap_alloc_new (W1.alloc (.cells #[.slice A2 n2 c2, .bool (decide (0 < n2))] 161)) (.cells #[.slice A3 n3 c3, .bool false] 161)
        rwa [World.size_alloc] at this
      have hb2 : Below W1.heap.size W1 W2 := by rw [hW2]; exact ((Below.refl _ W1).alloc (Nat.le_refl _) _).alloc (by simp) _
      rw [← hW2]
      clear hW2 G0 G1 g0 g1
      have P2 := hold_b HP.out.2.2.1 hb2
      have P3 := hold_b HP.out.2.2.2.1 hb2
      have hsz1 : w.heap.size + 4 ≤ W1.heap.size := by have := HP.out.2.2.2.2.size; omega
      have c80 : W2.cell? ⟨W1.heap.size, 0, none⟩ = some (.slice A2 n2 c2) := Lib.cell_of_heap B8 0
      have c81 : W2.cell? ⟨W1.heap.size, 1, none⟩ = some (.bool (decide (0 < n2))) := Lib.cell_of_heap B8 1
      have c90 : W2.cell? ⟨(W1.heap.size + 1), 0, none⟩ = some (.slice A3 n3 c3) := Lib.cell_of_heap B9 0
      have c91 : W2.cell? ⟨(W1.heap.size + 1), 1, none⟩ = some (.bool false) := Lib.cell_of_heap B9 1
      have far : ∀ (U : World) (b j i : Nat) (u : Value), b ≠ i → (U.setCell ⟨b, j, none⟩ u).heap[i]? = U.heap[i]? := fun U b j i u h => Below.heap_setCell U ⟨b, j, none⟩ u i (fun e => h e.symm)
      have K4 : ∀ i, i ≠ w.heap.size + 1 + 1 → ((W2.setCell ⟨w.heap.size + 1 + 1, 0, none⟩ (.slice A2 n2 c2)).setCell ⟨w.heap.size + 1 + 1, 1, none⟩ (.bool (decide (0 < n2)))).heap[i]? = W2.heap[i]? := fun i h => (far _ _ _ _ _ (fun e => h e.symm)).trans (far _ _ _ _ _ (fun e => h e.symm))
      have F8 := (K4 (W1.heap.size) (by omega)).trans B8
      have F9 := (K4 ((W1.heap.size + 1)) (by omega)).trans B9
      have F3 := (K4 (w.heap.size + 1 + 1 + 1) (by omega)).trans P3
      have e80 := Lib.cell_of_heap F8 0
      have e81 := Lib.cell_of_heap F8 1
      have e90 := Lib.cell_of_heap F9 0
      have e91 := Lib.cell_of_heap F9 1
      have e30 := Lib.cell_of_heap F3 0
      have e31 := Lib.cell_of_heap F3 1
      have d0 := Lib.cell_of_heap P2 0
      have d1 := Lib.cell_of_heap P2 1
      have fz2 : ∀ j, W2.frozen? ⟨w.heap.size + 1 + 1, j, none⟩ = false := fun j => by simp [World.frozen?, P2]
      have fz3 : ∀ j, ((W2.setCell ⟨w.heap.size + 1 + 1, 0, none⟩ (.slice A2 n2 c2)).setCell ⟨w.heap.size + 1 + 1, 1, none⟩ (.bool (decide (0 < n2)))).frozen? ⟨w.heap.size + 1 + 1 + 1, j, none⟩ = false := fun j => by simp [World.frozen?, F3]
      refine region_top (m := 4) (S := fun w' => w'.cell? ⟨W1.heap.size, 0, none⟩ = some (.slice A2 n2 c2) ∧ w'.cell? ⟨W1.heap.size, 1, none⟩ = some (.bool (decide (0 < n2))) ∧ w'.cell? ⟨(W1.heap.size + 1), 0, none⟩ = some (.slice A3 n3 c3) ∧ w'.cell? ⟨(W1.heap.size + 1), 1, none⟩ = some (.bool false)) (ds := [3]) #[false, false, false, false] mixed rfl rfl ⟨c80, c81, c90, c91⟩ (fun hHeld => ?_)
      refine take_ (i := 0) (N := (some 56)) (v := ?_) (a' := ?_) #[true, false, false, false] rfl rfl (by kernel_rfl) (fun _ _ _ h => absurd h.1 (by intro e; cases e)) (Or.inl ⟨by rfl, ?_⟩) hHeld ?_ ?_
      rotate_left
      · intro w' hS
        obtain ⟨s0, s1, s2, s3⟩ := hS; go_simp; (try with_reducible rfl)
      rotate_left
      · simp only [Act.put, List.setIfInBounds_toArray, List.set_cons_zero, List.set_cons_succ]
        rfl
      refine take_ (i := 1) (N := (some 57)) (v := ?_) (a' := ?_) #[true, true, false, false] rfl rfl (by kernel_rfl) (fun _ _ _ h => absurd h.1 (by intro e; cases e)) (Or.inl ⟨by rfl, ?_⟩) hHeld ?_ ?_
      rotate_left
      · intro w' hS
        obtain ⟨s0, s1, s2, s3⟩ := hS; go_simp; (try with_reducible rfl)
      rotate_left
      · simp only [Act.put, List.setIfInBounds_toArray, List.set_cons_zero, List.set_cons_succ]
        rfl
      refine one_ (i := 2) (N := none) #[true, true, true, false] rfl rfl (by kernel_rfl) (by decide) (fun K hK => ?_)
      rw [if_pos (by rfl)]
      unfold Oper.wp
      go_simp
      refine hK.out _ _ ⟨by simpa using e80, by simpa using e81, by simpa using e90, by simpa using e91⟩ (fun hHeld => ?_)
      clear hK K
      refine last_ (i := 3) (N := none) #[true, true, true, true] rfl rfl (by kernel_rfl) (by decide) (fun K hK => ?_)
      rw [if_pos (by rfl)]
      unfold Oper.wp
      go_simp
      refine hK.out _ _ ?_
      clear hK K
      refine done_ (by kernel_rfl) ?_
      refine ⟨rfl, ?_⟩
      go_wp2
      have R4 := blk_put (blk_put P2 0 (.slice A2 n2 c2) rfl) 1 (.bool (decide (0 < n2))) rfl
      have R5 := blk_put (blk_put F3 0 (.slice A3 n3 c3) rfl) 1 (.bool false) rfl
      have R4' : ((((W2.setCell ⟨w.heap.size + 1 + 1, 0, none⟩ (.slice A2 n2 c2)).setCell ⟨w.heap.size + 1 + 1, 1, none⟩ (.bool (decide (0 < n2)))).setCell ⟨w.heap.size + 1 + 1 + 1, 0, none⟩ (.slice A3 n3 c3)).setCell ⟨w.heap.size + 1 + 1 + 1, 1, none⟩ (.bool false)).heap[w.heap.size + 1 + 1]? = _ := ((far _ _ _ _ _ (by omega)).trans (far _ _ _ _ _ (by omega))).trans R4
      have r40 := cell_drew0 R4'
      have r41 := cell_drew1 R4'
      have r50 := cell_drew0 R5
      have r51 := cell_drew1 R5
      refine bodyPost_ret (results_whole2 rfl _ _ (w.heap.size + 1 + 1) (w.heap.size + 1 + 1 + 1) (.slice A2 n2 c2) (.slice A3 n3 c3) (decide (0 < n2)) false rfl rfl rfl rfl r40 r41 r50 r51) rfl ?_
      refine ⟨.slice A2 n2 c2, .slice A3 n3 c3, ?_, ?_, ?_, ?_⟩
      · rw [HDV.out]
        show Ending.returned (.tuple #[.agg #[_, .bool _], .agg #[_, .bool _]]) = Ending.returned (.tuple #[.agg #[_, .bool _], .agg #[_, .bool _]])
        rw [show ((true != false) && decide (0 < X / Y)) = (decide (0 < n2)) from by rw [HS.out.1, mg_len0]; rfl, show (true && decide (0 < X % Y)) = false from by rw [hz]; rfl]
      · rw [HDV.out]
        exact Kd.V_mono (Kd.V_drew (Kd.V_far (Kd.V_far (Kd.V_far (Kd.V_far (Kd.V_below HS.out.2.2.1 hb2) (fun k hk => by show _ ≠ _; simp only; omega) _) (fun k hk => by show _ ≠ _; simp only; omega) _) (fun k hk => by show _ ≠ _; simp only; omega) _) (fun k hk => by show _ ≠ _; simp only; omega) _)) (fun k hk => by omega)
      · rw [HDV.out]
        exact Kd.V_mono (Kd.V_drew (Kd.V_far (Kd.V_far (Kd.V_far (Kd.V_far (Kd.V_below HS.out.2.2.2.1 hb2) (fun k hk => by show _ ≠ _; simp only; omega) _) (fun k hk => by show _ ≠ _; simp only; omega) _) (fun k hk => by show _ ≠ _; simp only; omega) _) (fun k hk => by show _ ≠ _; simp only; omega) _)) (fun k hk => by omega)
      · exact below_drew (((((hBV.trans (HP.out.2.2.2.2.mono (by omega))).trans (hb2.mono (by omega))).setCell (by show _ ≤ _; simp only; omega) _).setCell (by show _ ≤ _; simp only; omega) _).setCell (by show _ ≤ _; simp only; omega) _ |>.setCell (by show _ ≤ _; simp only; omega) _)
    · clear hadj
      go_enter Tryz.func164, Tryz.ntmps164
      go_wp2_with (go_at_call 199; refine HQ.out.mono ?_; rintro e W1 ⟨A2, n2, c2, A3, n3, c3, rfl, HS⟩; have hb := HS.out.2.2.2.2; rw [← hV] at hb; have p0 := hold_b v0 hb; have p1 := hold_b v1 hb; have p2 := hold_b v2 hb; have p3 := hold_b v3 hb; have HP := Aside0.mk (And.intro p0 (And.intro p1 (And.intro p2 (And.intro p3 hb)))); have g0 := Lib.cell_of_heap p0 1; have g1 := Lib.cell_of_heap p1 1; have G0 : ∀ o1 o2, ((W1.alloc o1).alloc o2).cell? ⟨w.heap.size, 1, none⟩ = _ := (fun o1 o2 => ((((Below.refl _ W1).alloc (Nat.le_refl _) o1).alloc (by simp) o2).cell (p := ⟨w.heap.size, 1, none⟩) (Array.getElem?_eq_some_iff.1 p0).1).trans g0); have G1 : ∀ o1 o2, ((W1.alloc o1).alloc o2).cell? ⟨w.heap.size + 1, 1, none⟩ = _ := (fun o1 o2 => ((((Below.refl _ W1).alloc (Nat.le_refl _) o1).alloc (by simp) o2).cell (p := ⟨w.heap.size + 1, 1, none⟩) (Array.getElem?_eq_some_iff.1 p1).1).trans g1); (have hn3 : decide ((0 : Int) < (n3 : Int)) = decide (0 < X % Y) := (by rw [hdw, HS.out.2.1, mg_len0])); rw [decide_eq_false (show ¬ 0 < X % Y by omega)] at hn3; (have hn3p := of_decide_eq_false hn3); clear hb p0 p1 p2 p3)
      obtain ⟨W2, hW2⟩ : ∃ W2, W2 = ((W1.alloc (.cells #[.slice A2 n2 c2, .bool false] 161)).alloc (.cells #[.slice A3 n3 c3, .bool false] 161) : World) := ⟨_, rfl⟩
      have B8 : W2.heap[W1.heap.size]? = some (.cells #[.slice A2 n2 c2, .bool false] 161 (0, 0)) := by rw [hW2, heap_alloc_old _ _ (by simp), heap_alloc_new]
      have B9 : W2.heap[W1.heap.size + 1]? = some (.cells #[.slice A3 n3 c3, .bool false] 161 (0, 0)) := by
        rw [hW2]
        have := heap_alloc_new (W1.alloc (.cells #[.slice A2 n2 c2, .bool false] 161)) (.cells #[.slice A3 n3 c3, .bool false] 161)
        rwa [World.size_alloc] at this
      have hb2 : Below W1.heap.size W1 W2 := by rw [hW2]; exact ((Below.refl _ W1).alloc (Nat.le_refl _) _).alloc (by simp) _
      rw [← hW2]
      clear hW2 G0 G1 g0 g1
      have P2 := hold_b HP.out.2.2.1 hb2
      have P3 := hold_b HP.out.2.2.2.1 hb2
      have hsz1 : w.heap.size + 4 ≤ W1.heap.size := by have := HP.out.2.2.2.2.size; omega
      have c80 : W2.cell? ⟨W1.heap.size, 0, none⟩ = some (.slice A2 n2 c2) := Lib.cell_of_heap B8 0
      have c81 : W2.cell? ⟨W1.heap.size, 1, none⟩ = some (.bool false) := Lib.cell_of_heap B8 1
      have c90 : W2.cell? ⟨(W1.heap.size + 1), 0, none⟩ = some (.slice A3 n3 c3) := Lib.cell_of_heap B9 0
      have c91 : W2.cell? ⟨(W1.heap.size + 1), 1, none⟩ = some (.bool false) := Lib.cell_of_heap B9 1
      have far : ∀ (U : World) (b j i : Nat) (u : Value), b ≠ i → (U.setCell ⟨b, j, none⟩ u).heap[i]? = U.heap[i]? := fun U b j i u h => Below.heap_setCell U ⟨b, j, none⟩ u i (fun e => h e.symm)
      have K4 : ∀ i, i ≠ w.heap.size + 1 + 1 → ((W2.setCell ⟨w.heap.size + 1 + 1, 0, none⟩ (.slice A2 n2 c2)).setCell ⟨w.heap.size + 1 + 1, 1, none⟩ (.bool false)).heap[i]? = W2.heap[i]? := fun i h => (far _ _ _ _ _ (fun e => h e.symm)).trans (far _ _ _ _ _ (fun e => h e.symm))
      have F8 := (K4 (W1.heap.size) (by omega)).trans B8
      have F9 := (K4 ((W1.heap.size + 1)) (by omega)).trans B9
      have F3 := (K4 (w.heap.size + 1 + 1 + 1) (by omega)).trans P3
      have e80 := Lib.cell_of_heap F8 0
      have e81 := Lib.cell_of_heap F8 1
      have e90 := Lib.cell_of_heap F9 0
      have e91 := Lib.cell_of_heap F9 1
      have e30 := Lib.cell_of_heap F3 0
      have e31 := Lib.cell_of_heap F3 1
      have d0 := Lib.cell_of_heap P2 0
      have d1 := Lib.cell_of_heap P2 1
      have fz2 : ∀ j, W2.frozen? ⟨w.heap.size + 1 + 1, j, none⟩ = false := fun j => by simp [World.frozen?, P2]
      have fz3 : ∀ j, ((W2.setCell ⟨w.heap.size + 1 + 1, 0, none⟩ (.slice A2 n2 c2)).setCell ⟨w.heap.size + 1 + 1, 1, none⟩ (.bool false)).frozen? ⟨w.heap.size + 1 + 1 + 1, j, none⟩ = false := fun j => by simp [World.frozen?, F3]
      refine region_top (m := 4) (S := fun w' => w'.cell? ⟨W1.heap.size, 0, none⟩ = some (.slice A2 n2 c2) ∧ w'.cell? ⟨W1.heap.size, 1, none⟩ = some (.bool false) ∧ w'.cell? ⟨(W1.heap.size + 1), 0, none⟩ = some (.slice A3 n3 c3) ∧ w'.cell? ⟨(W1.heap.size + 1), 1, none⟩ = some (.bool false)) (ds := [3]) #[false, false, false, false] mixed rfl rfl ⟨c80, c81, c90, c91⟩ (fun hHeld => ?_)
      refine take_ (i := 0) (N := (some 56)) (v := ?_) (a' := ?_) #[true, false, false, false] rfl rfl (by kernel_rfl) (fun _ _ _ h => absurd h.1 (by intro e; cases e)) (Or.inl ⟨by rfl, ?_⟩) hHeld ?_ ?_
      rotate_left
      · intro w' hS
        obtain ⟨s0, s1, s2, s3⟩ := hS; go_simp; (try with_reducible rfl)
      rotate_left
      · simp only [Act.put, List.setIfInBounds_toArray, List.set_cons_zero, List.set_cons_succ]
        rfl
      refine take_ (i := 1) (N := (some 57)) (v := ?_) (a' := ?_) #[true, true, false, false] rfl rfl (by kernel_rfl) (fun _ _ _ h => absurd h.1 (by intro e; cases e)) (Or.inl ⟨by rfl, ?_⟩) hHeld ?_ ?_
      rotate_left
      · intro w' hS
        obtain ⟨s0, s1, s2, s3⟩ := hS; go_simp; (try with_reducible rfl)
      rotate_left
      · simp only [Act.put, List.setIfInBounds_toArray, List.set_cons_zero, List.set_cons_succ]
        rfl
      refine one_ (i := 2) (N := none) #[true, true, true, false] rfl rfl (by kernel_rfl) (by decide) (fun K hK => ?_)
      rw [if_pos (by rfl)]
      unfold Oper.wp
      go_simp
      refine hK.out _ _ ⟨by simpa using e80, by simpa using e81, by simpa using e90, by simpa using e91⟩ (fun hHeld => ?_)
      clear hK K
      refine last_ (i := 3) (N := none) #[true, true, true, true] rfl rfl (by kernel_rfl) (by decide) (fun K hK => ?_)
      rw [if_pos (by rfl)]
      unfold Oper.wp
      go_simp
      refine hK.out _ _ ?_
      clear hK K
      refine done_ (by kernel_rfl) ?_
      refine ⟨rfl, ?_⟩
      go_wp2
      have R4 := blk_put (blk_put P2 0 (.slice A2 n2 c2) rfl) 1 (.bool false) rfl
      have R5 := blk_put (blk_put F3 0 (.slice A3 n3 c3) rfl) 1 (.bool false) rfl
      have R4' : ((((W2.setCell ⟨w.heap.size + 1 + 1, 0, none⟩ (.slice A2 n2 c2)).setCell ⟨w.heap.size + 1 + 1, 1, none⟩ (.bool false)).setCell ⟨w.heap.size + 1 + 1 + 1, 0, none⟩ (.slice A3 n3 c3)).setCell ⟨w.heap.size + 1 + 1 + 1, 1, none⟩ (.bool false)).heap[w.heap.size + 1 + 1]? = _ := ((far _ _ _ _ _ (by omega)).trans (far _ _ _ _ _ (by omega))).trans R4
      have r40 := cell_drew0 R4'
      have r41 := cell_drew1 R4'
      have r50 := cell_drew0 R5
      have r51 := cell_drew1 R5
      refine bodyPost_ret (results_whole2 rfl _ _ (w.heap.size + 1 + 1) (w.heap.size + 1 + 1 + 1) (.slice A2 n2 c2) (.slice A3 n3 c3) false false rfl rfl rfl rfl r40 r41 r50 r51) rfl ?_
      refine ⟨.slice A2 n2 c2, .slice A3 n3 c3, ?_, ?_, ?_, ?_⟩
      · rw [HDV.out]
        show Ending.returned (.tuple #[.agg #[_, .bool _], .agg #[_, .bool _]]) = Ending.returned (.tuple #[.agg #[_, .bool _], .agg #[_, .bool _]])
        rw [show ((true != true) && decide (0 < X / Y)) = false from rfl, show (true && decide (0 < X % Y)) = false from by rw [hz]; rfl]
      · rw [HDV.out]
        exact Kd.V_mono (Kd.V_drew (Kd.V_far (Kd.V_far (Kd.V_far (Kd.V_far (Kd.V_below HS.out.2.2.1 hb2) (fun k hk => by show _ ≠ _; simp only; omega) _) (fun k hk => by show _ ≠ _; simp only; omega) _) (fun k hk => by show _ ≠ _; simp only; omega) _) (fun k hk => by show _ ≠ _; simp only; omega) _)) (fun k hk => by omega)
      · rw [HDV.out]
        exact Kd.V_mono (Kd.V_drew (Kd.V_far (Kd.V_far (Kd.V_far (Kd.V_far (Kd.V_below HS.out.2.2.2.1 hb2) (fun k hk => by show _ ≠ _; simp only; omega) _) (fun k hk => by show _ ≠ _; simp only; omega) _) (fun k hk => by show _ ≠ _; simp only; omega) _) (fun k hk => by show _ ≠ _; simp only; omega) _)) (fun k hk => by omega)
      · exact below_drew (((((hBV.trans (HP.out.2.2.2.2.mono (by omega))).trans (hb2.mono (by omega))).setCell (by show _ ≤ _; simp only; omega) _).setCell (by show _ ≤ _; simp only; omega) _).setCell (by show _ ≤ _; simp only; omega) _ |>.setCell (by show _ ≤ _; simp only; omega) _)
  · cases a <;> cases b
    · clear hadj
      go_enter Tryz.func164, Tryz.ntmps164
      go_wp2_with (go_at_call 199; refine HQ.out.mono ?_; rintro e W1 ⟨A2, n2, c2, A3, n3, c3, rfl, HS⟩; have hb := HS.out.2.2.2.2; rw [← hV] at hb; have p0 := hold_b v0 hb; have p1 := hold_b v1 hb; have p2 := hold_b v2 hb; have p3 := hold_b v3 hb; have HP := Aside0.mk (And.intro p0 (And.intro p1 (And.intro p2 (And.intro p3 hb)))); have g0 := Lib.cell_of_heap p0 1; have g1 := Lib.cell_of_heap p1 1; have G0 : ∀ o1 o2, ((W1.alloc o1).alloc o2).cell? ⟨w.heap.size, 1, none⟩ = _ := (fun o1 o2 => ((((Below.refl _ W1).alloc (Nat.le_refl _) o1).alloc (by simp) o2).cell (p := ⟨w.heap.size, 1, none⟩) (Array.getElem?_eq_some_iff.1 p0).1).trans g0); have G1 : ∀ o1 o2, ((W1.alloc o1).alloc o2).cell? ⟨w.heap.size + 1, 1, none⟩ = _ := (fun o1 o2 => ((((Below.refl _ W1).alloc (Nat.le_refl _) o1).alloc (by simp) o2).cell (p := ⟨w.heap.size + 1, 1, none⟩) (Array.getElem?_eq_some_iff.1 p1).1).trans g1); (have hn3 : decide ((0 : Int) < (n3 : Int)) = decide (0 < X % Y) := (by rw [hdw, HS.out.2.1, mg_len0])); rw [decide_eq_true hz] at hn3; (have hn3p := of_decide_eq_true hn3); clear hb p0 p1 p2 p3)
      obtain ⟨W2, hW2⟩ : ∃ W2, W2 = ((W1.alloc (.cells #[.slice A2 n2 c2, .bool false] 161)).alloc (.cells #[.slice A3 n3 c3, .bool false] 161) : World) := ⟨_, rfl⟩
      have B8 : W2.heap[W1.heap.size]? = some (.cells #[.slice A2 n2 c2, .bool false] 161 (0, 0)) := by rw [hW2, heap_alloc_old _ _ (by simp), heap_alloc_new]
      have B9 : W2.heap[W1.heap.size + 1]? = some (.cells #[.slice A3 n3 c3, .bool false] 161 (0, 0)) := by
        rw [hW2]
        have := heap_alloc_new (W1.alloc (.cells #[.slice A2 n2 c2, .bool false] 161)) (.cells #[.slice A3 n3 c3, .bool false] 161)
        rwa [World.size_alloc] at this
      have hb2 : Below W1.heap.size W1 W2 := by rw [hW2]; exact ((Below.refl _ W1).alloc (Nat.le_refl _) _).alloc (by simp) _
      rw [← hW2]
      clear hW2 G0 G1 g0 g1
      have P2 := hold_b HP.out.2.2.1 hb2
      have P3 := hold_b HP.out.2.2.2.1 hb2
      have hsz1 : w.heap.size + 4 ≤ W1.heap.size := by have := HP.out.2.2.2.2.size; omega
      have c80 : W2.cell? ⟨W1.heap.size, 0, none⟩ = some (.slice A2 n2 c2) := Lib.cell_of_heap B8 0
      have c81 : W2.cell? ⟨W1.heap.size, 1, none⟩ = some (.bool false) := Lib.cell_of_heap B8 1
      have c90 : W2.cell? ⟨(W1.heap.size + 1), 0, none⟩ = some (.slice A3 n3 c3) := Lib.cell_of_heap B9 0
      have c91 : W2.cell? ⟨(W1.heap.size + 1), 1, none⟩ = some (.bool false) := Lib.cell_of_heap B9 1
      have far : ∀ (U : World) (b j i : Nat) (u : Value), b ≠ i → (U.setCell ⟨b, j, none⟩ u).heap[i]? = U.heap[i]? := fun U b j i u h => Below.heap_setCell U ⟨b, j, none⟩ u i (fun e => h e.symm)
      have K4 : ∀ i, i ≠ w.heap.size + 1 + 1 → ((W2.setCell ⟨w.heap.size + 1 + 1, 0, none⟩ (.slice A2 n2 c2)).setCell ⟨w.heap.size + 1 + 1, 1, none⟩ (.bool false)).heap[i]? = W2.heap[i]? := fun i h => (far _ _ _ _ _ (fun e => h e.symm)).trans (far _ _ _ _ _ (fun e => h e.symm))
      have F8 := (K4 (W1.heap.size) (by omega)).trans B8
      have F9 := (K4 ((W1.heap.size + 1)) (by omega)).trans B9
      have F3 := (K4 (w.heap.size + 1 + 1 + 1) (by omega)).trans P3
      have e80 := Lib.cell_of_heap F8 0
      have e81 := Lib.cell_of_heap F8 1
      have e90 := Lib.cell_of_heap F9 0
      have e91 := Lib.cell_of_heap F9 1
      have e30 := Lib.cell_of_heap F3 0
      have e31 := Lib.cell_of_heap F3 1
      have d0 := Lib.cell_of_heap P2 0
      have d1 := Lib.cell_of_heap P2 1
      have fz2 : ∀ j, W2.frozen? ⟨w.heap.size + 1 + 1, j, none⟩ = false := fun j => by simp [World.frozen?, P2]
      have fz3 : ∀ j, ((W2.setCell ⟨w.heap.size + 1 + 1, 0, none⟩ (.slice A2 n2 c2)).setCell ⟨w.heap.size + 1 + 1, 1, none⟩ (.bool false)).frozen? ⟨w.heap.size + 1 + 1 + 1, j, none⟩ = false := fun j => by simp [World.frozen?, F3]
      refine region_top (m := 4) (S := fun w' => w'.cell? ⟨W1.heap.size, 0, none⟩ = some (.slice A2 n2 c2) ∧ w'.cell? ⟨W1.heap.size, 1, none⟩ = some (.bool false) ∧ w'.cell? ⟨(W1.heap.size + 1), 0, none⟩ = some (.slice A3 n3 c3) ∧ w'.cell? ⟨(W1.heap.size + 1), 1, none⟩ = some (.bool false)) (ds := [3]) #[false, false, false, false] mixed rfl rfl ⟨c80, c81, c90, c91⟩ (fun hHeld => ?_)
      refine take_ (i := 0) (N := (some 56)) (v := ?_) (a' := ?_) #[true, false, false, false] rfl rfl (by kernel_rfl) (fun _ _ _ h => absurd h.1 (by intro e; cases e)) (Or.inl ⟨by rfl, ?_⟩) hHeld ?_ ?_
      rotate_left
      · intro w' hS
        obtain ⟨s0, s1, s2, s3⟩ := hS; go_simp; (try with_reducible rfl)
      rotate_left
      · simp only [Act.put, List.setIfInBounds_toArray, List.set_cons_zero, List.set_cons_succ]
        rfl
      refine take_ (i := 1) (N := (some 57)) (v := ?_) (a' := ?_) #[true, true, false, false] rfl rfl (by kernel_rfl) (fun _ _ _ h => absurd h.1 (by intro e; cases e)) (Or.inl ⟨by rfl, ?_⟩) hHeld ?_ ?_
      rotate_left
      · intro w' hS
        obtain ⟨s0, s1, s2, s3⟩ := hS; go_simp; (try with_reducible rfl)
      rotate_left
      · simp only [Act.put, List.setIfInBounds_toArray, List.set_cons_zero, List.set_cons_succ]
        rfl
      refine one_ (i := 2) (N := none) #[true, true, true, false] rfl rfl (by kernel_rfl) (by decide) (fun K hK => ?_)
      rw [if_pos (by rfl)]
      unfold Oper.wp
      go_simp
      refine hK.out _ _ ⟨by simpa using e80, by simpa using e81, by simpa using e90, by simpa using e91⟩ (fun hHeld => ?_)
      clear hK K
      refine last_ (i := 3) (N := none) #[true, true, true, true] rfl rfl (by kernel_rfl) (by decide) (fun K hK => ?_)
      rw [if_pos (by rfl)]
      unfold Oper.wp
      go_simp
      refine hK.out _ _ ?_
      clear hK K
      refine done_ (by kernel_rfl) ?_
      refine ⟨rfl, ?_⟩
      go_wp2
      have R4 := blk_put (blk_put P2 0 (.slice A2 n2 c2) rfl) 1 (.bool false) rfl
      have R5 := blk_put (blk_put F3 0 (.slice A3 n3 c3) rfl) 1 (.bool false) rfl
      have R4' : ((((W2.setCell ⟨w.heap.size + 1 + 1, 0, none⟩ (.slice A2 n2 c2)).setCell ⟨w.heap.size + 1 + 1, 1, none⟩ (.bool false)).setCell ⟨w.heap.size + 1 + 1 + 1, 0, none⟩ (.slice A3 n3 c3)).setCell ⟨w.heap.size + 1 + 1 + 1, 1, none⟩ (.bool false)).heap[w.heap.size + 1 + 1]? = _ := ((far _ _ _ _ _ (by omega)).trans (far _ _ _ _ _ (by omega))).trans R4
      have r40 := cell_drew0 R4'
      have r41 := cell_drew1 R4'
      have r50 := cell_drew0 R5
      have r51 := cell_drew1 R5
      refine bodyPost_ret (results_whole2 rfl _ _ (w.heap.size + 1 + 1) (w.heap.size + 1 + 1 + 1) (.slice A2 n2 c2) (.slice A3 n3 c3) false false rfl rfl rfl rfl r40 r41 r50 r51) rfl ?_
      refine ⟨.slice A2 n2 c2, .slice A3 n3 c3, ?_, ?_, ?_, ?_⟩
      · rw [HDV.out]
        show Ending.returned (.tuple #[.agg #[_, .bool _], .agg #[_, .bool _]]) = Ending.returned (.tuple #[.agg #[_, .bool _], .agg #[_, .bool _]])
        rw [show ((false != false) && decide (0 < X / Y)) = false from rfl, show (false && decide (0 < X % Y)) = false from rfl]
      · rw [HDV.out]
        exact Kd.V_mono (Kd.V_drew (Kd.V_far (Kd.V_far (Kd.V_far (Kd.V_far (Kd.V_below HS.out.2.2.1 hb2) (fun k hk => by show _ ≠ _; simp only; omega) _) (fun k hk => by show _ ≠ _; simp only; omega) _) (fun k hk => by show _ ≠ _; simp only; omega) _) (fun k hk => by show _ ≠ _; simp only; omega) _)) (fun k hk => by omega)
      · rw [HDV.out]
        exact Kd.V_mono (Kd.V_drew (Kd.V_far (Kd.V_far (Kd.V_far (Kd.V_far (Kd.V_below HS.out.2.2.2.1 hb2) (fun k hk => by show _ ≠ _; simp only; omega) _) (fun k hk => by show _ ≠ _; simp only; omega) _) (fun k hk => by show _ ≠ _; simp only; omega) _) (fun k hk => by show _ ≠ _; simp only; omega) _)) (fun k hk => by omega)
      · exact below_drew (((((hBV.trans (HP.out.2.2.2.2.mono (by omega))).trans (hb2.mono (by omega))).setCell (by show _ ≤ _; simp only; omega) _).setCell (by show _ ≤ _; simp only; omega) _).setCell (by show _ ≤ _; simp only; omega) _ |>.setCell (by show _ ≤ _; simp only; omega) _)
    · exact absurd ⟨hz, by decide⟩ hadj
    · exact absurd ⟨hz, by decide⟩ hadj
    · clear hadj
      go_enter Tryz.func164, Tryz.ntmps164
      go_wp2_with (go_at_call 199; refine HQ.out.mono ?_; rintro e W1 ⟨A2, n2, c2, A3, n3, c3, rfl, HS⟩; have hb := HS.out.2.2.2.2; rw [← hV] at hb; have p0 := hold_b v0 hb; have p1 := hold_b v1 hb; have p2 := hold_b v2 hb; have p3 := hold_b v3 hb; have HP := Aside0.mk (And.intro p0 (And.intro p1 (And.intro p2 (And.intro p3 hb)))); have g0 := Lib.cell_of_heap p0 1; have g1 := Lib.cell_of_heap p1 1; have G0 : ∀ o1 o2, ((W1.alloc o1).alloc o2).cell? ⟨w.heap.size, 1, none⟩ = _ := (fun o1 o2 => ((((Below.refl _ W1).alloc (Nat.le_refl _) o1).alloc (by simp) o2).cell (p := ⟨w.heap.size, 1, none⟩) (Array.getElem?_eq_some_iff.1 p0).1).trans g0); have G1 : ∀ o1 o2, ((W1.alloc o1).alloc o2).cell? ⟨w.heap.size + 1, 1, none⟩ = _ := (fun o1 o2 => ((((Below.refl _ W1).alloc (Nat.le_refl _) o1).alloc (by simp) o2).cell (p := ⟨w.heap.size + 1, 1, none⟩) (Array.getElem?_eq_some_iff.1 p1).1).trans g1); (have hn3 : decide ((0 : Int) < (n3 : Int)) = decide (0 < X % Y) := (by rw [hdw, HS.out.2.1, mg_len0])); rw [decide_eq_true hz] at hn3; (have hn3p := of_decide_eq_true hn3); clear hb p0 p1 p2 p3)
      obtain ⟨W2, hW2⟩ : ∃ W2, W2 = ((W1.alloc (.cells #[.slice A2 n2 c2, .bool false] 161)).alloc (.cells #[.slice A3 n3 c3, .bool true] 161) : World) := ⟨_, rfl⟩
      have B8 : W2.heap[W1.heap.size]? = some (.cells #[.slice A2 n2 c2, .bool false] 161 (0, 0)) := by rw [hW2, heap_alloc_old _ _ (by simp), heap_alloc_new]
      have B9 : W2.heap[W1.heap.size + 1]? = some (.cells #[.slice A3 n3 c3, .bool true] 161 (0, 0)) := by
        rw [hW2]
        have := heap_alloc_new (W1.alloc (.cells #[.slice A2 n2 c2, .bool false] 161)) (.cells #[.slice A3 n3 c3, .bool true] 161)
        rwa [World.size_alloc] at this
      have hb2 : Below W1.heap.size W1 W2 := by rw [hW2]; exact ((Below.refl _ W1).alloc (Nat.le_refl _) _).alloc (by simp) _
      rw [← hW2]
      clear hW2 G0 G1 g0 g1
      have P2 := hold_b HP.out.2.2.1 hb2
      have P3 := hold_b HP.out.2.2.2.1 hb2
      have hsz1 : w.heap.size + 4 ≤ W1.heap.size := by have := HP.out.2.2.2.2.size; omega
      have c80 : W2.cell? ⟨W1.heap.size, 0, none⟩ = some (.slice A2 n2 c2) := Lib.cell_of_heap B8 0
      have c81 : W2.cell? ⟨W1.heap.size, 1, none⟩ = some (.bool false) := Lib.cell_of_heap B8 1
      have c90 : W2.cell? ⟨(W1.heap.size + 1), 0, none⟩ = some (.slice A3 n3 c3) := Lib.cell_of_heap B9 0
      have c91 : W2.cell? ⟨(W1.heap.size + 1), 1, none⟩ = some (.bool true) := Lib.cell_of_heap B9 1
      have far : ∀ (U : World) (b j i : Nat) (u : Value), b ≠ i → (U.setCell ⟨b, j, none⟩ u).heap[i]? = U.heap[i]? := fun U b j i u h => Below.heap_setCell U ⟨b, j, none⟩ u i (fun e => h e.symm)
      have K4 : ∀ i, i ≠ w.heap.size + 1 + 1 → ((W2.setCell ⟨w.heap.size + 1 + 1, 0, none⟩ (.slice A2 n2 c2)).setCell ⟨w.heap.size + 1 + 1, 1, none⟩ (.bool false)).heap[i]? = W2.heap[i]? := fun i h => (far _ _ _ _ _ (fun e => h e.symm)).trans (far _ _ _ _ _ (fun e => h e.symm))
      have F8 := (K4 (W1.heap.size) (by omega)).trans B8
      have F9 := (K4 ((W1.heap.size + 1)) (by omega)).trans B9
      have F3 := (K4 (w.heap.size + 1 + 1 + 1) (by omega)).trans P3
      have e80 := Lib.cell_of_heap F8 0
      have e81 := Lib.cell_of_heap F8 1
      have e90 := Lib.cell_of_heap F9 0
      have e91 := Lib.cell_of_heap F9 1
      have e30 := Lib.cell_of_heap F3 0
      have e31 := Lib.cell_of_heap F3 1
      have d0 := Lib.cell_of_heap P2 0
      have d1 := Lib.cell_of_heap P2 1
      have fz2 : ∀ j, W2.frozen? ⟨w.heap.size + 1 + 1, j, none⟩ = false := fun j => by simp [World.frozen?, P2]
      have fz3 : ∀ j, ((W2.setCell ⟨w.heap.size + 1 + 1, 0, none⟩ (.slice A2 n2 c2)).setCell ⟨w.heap.size + 1 + 1, 1, none⟩ (.bool false)).frozen? ⟨w.heap.size + 1 + 1 + 1, j, none⟩ = false := fun j => by simp [World.frozen?, F3]
      refine region_top (m := 4) (S := fun w' => w'.cell? ⟨W1.heap.size, 0, none⟩ = some (.slice A2 n2 c2) ∧ w'.cell? ⟨W1.heap.size, 1, none⟩ = some (.bool false) ∧ w'.cell? ⟨(W1.heap.size + 1), 0, none⟩ = some (.slice A3 n3 c3) ∧ w'.cell? ⟨(W1.heap.size + 1), 1, none⟩ = some (.bool true)) (ds := [3]) #[false, false, false, false] mixed rfl rfl ⟨c80, c81, c90, c91⟩ (fun hHeld => ?_)
      refine take_ (i := 0) (N := (some 56)) (v := ?_) (a' := ?_) #[true, false, false, false] rfl rfl (by kernel_rfl) (fun _ _ _ h => absurd h.1 (by intro e; cases e)) (Or.inl ⟨by rfl, ?_⟩) hHeld ?_ ?_
      rotate_left
      · intro w' hS
        obtain ⟨s0, s1, s2, s3⟩ := hS; go_simp; (try with_reducible rfl)
      rotate_left
      · simp only [Act.put, List.setIfInBounds_toArray, List.set_cons_zero, List.set_cons_succ]
        rfl
      refine take_ (i := 1) (N := (some 57)) (v := ?_) (a' := ?_) #[true, true, false, false] rfl rfl (by kernel_rfl) (fun _ _ _ h => absurd h.1 (by intro e; cases e)) (Or.inl ⟨by rfl, ?_⟩) hHeld ?_ ?_
      rotate_left
      · intro w' hS
        obtain ⟨s0, s1, s2, s3⟩ := hS; go_simp; (try with_reducible rfl)
      rotate_left
      · simp only [Act.put, List.setIfInBounds_toArray, List.set_cons_zero, List.set_cons_succ]
        rfl
      refine one_ (i := 2) (N := none) #[true, true, true, false] rfl rfl (by kernel_rfl) (by decide) (fun K hK => ?_)
      rw [if_pos (by rfl)]
      unfold Oper.wp
      go_simp
      refine hK.out _ _ ⟨by simpa using e80, by simpa using e81, by simpa using e90, by simpa using e91⟩ (fun hHeld => ?_)
      clear hK K
      refine last_ (i := 3) (N := none) #[true, true, true, true] rfl rfl (by kernel_rfl) (by decide) (fun K hK => ?_)
      rw [if_pos (by rfl)]
      unfold Oper.wp
      go_simp
      refine hK.out _ _ ?_
      clear hK K
      refine done_ (by kernel_rfl) ?_
      refine ⟨rfl, ?_⟩
      go_wp2
      have R4 := blk_put (blk_put P2 0 (.slice A2 n2 c2) rfl) 1 (.bool false) rfl
      have R5 := blk_put (blk_put F3 0 (.slice A3 n3 c3) rfl) 1 (.bool true) rfl
      have R4' : ((((W2.setCell ⟨w.heap.size + 1 + 1, 0, none⟩ (.slice A2 n2 c2)).setCell ⟨w.heap.size + 1 + 1, 1, none⟩ (.bool false)).setCell ⟨w.heap.size + 1 + 1 + 1, 0, none⟩ (.slice A3 n3 c3)).setCell ⟨w.heap.size + 1 + 1 + 1, 1, none⟩ (.bool true)).heap[w.heap.size + 1 + 1]? = _ := ((far _ _ _ _ _ (by omega)).trans (far _ _ _ _ _ (by omega))).trans R4
      have r40 := cell_drew0 R4'
      have r41 := cell_drew1 R4'
      have r50 := cell_drew0 R5
      have r51 := cell_drew1 R5
      refine bodyPost_ret (results_whole2 rfl _ _ (w.heap.size + 1 + 1) (w.heap.size + 1 + 1 + 1) (.slice A2 n2 c2) (.slice A3 n3 c3) false true rfl rfl rfl rfl r40 r41 r50 r51) rfl ?_
      refine ⟨.slice A2 n2 c2, .slice A3 n3 c3, ?_, ?_, ?_, ?_⟩
      · rw [HDV.out]
        show Ending.returned (.tuple #[.agg #[_, .bool _], .agg #[_, .bool _]]) = Ending.returned (.tuple #[.agg #[_, .bool _], .agg #[_, .bool _]])
        rw [show ((true != true) && decide (0 < X / Y)) = false from rfl, show (true && decide (0 < X % Y)) = true from by rw [decide_eq_true hz]; rfl]
      · rw [HDV.out]
        exact Kd.V_mono (Kd.V_drew (Kd.V_far (Kd.V_far (Kd.V_far (Kd.V_far (Kd.V_below HS.out.2.2.1 hb2) (fun k hk => by show _ ≠ _; simp only; omega) _) (fun k hk => by show _ ≠ _; simp only; omega) _) (fun k hk => by show _ ≠ _; simp only; omega) _) (fun k hk => by show _ ≠ _; simp only; omega) _)) (fun k hk => by omega)
      · rw [HDV.out]
        exact Kd.V_mono (Kd.V_drew (Kd.V_far (Kd.V_far (Kd.V_far (Kd.V_far (Kd.V_below HS.out.2.2.2.1 hb2) (fun k hk => by show _ ≠ _; simp only; omega) _) (fun k hk => by show _ ≠ _; simp only; omega) _) (fun k hk => by show _ ≠ _; simp only; omega) _) (fun k hk => by show _ ≠ _; simp only; omega) _)) (fun k hk => by omega)
      · exact below_drew (((((hBV.trans (HP.out.2.2.2.2.mono (by omega))).trans (hb2.mono (by omega))).setCell (by show _ ≤ _; simp only; omega) _).setCell (by show _ ≤ _; simp only; omega) _).setCell (by show _ ≤ _; simp only; omega) _ |>.setCell (by show _ ≤ _; simp only; omega) _)
end Go.Proofs.YtcpaajecppplhaaGreatDoor.Hd
end
