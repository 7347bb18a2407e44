/- What the law leans on, part 33: declarations of several texts of ours, in their order. -/
import Derived.Test.YtcpaajecppplhaaGreatDoorXN31
import Derived.Test.YtcpaajecppplhaaGreatDoorProg
import Derived.Below
import Derived.Deep.Draws
import Derived.Deep.AppendLies
import Derived.Maps.AppendAt
import Derived.OwnWalk
import Derived.Laws.BytesArg
import Derived.Laws.MakeOwn
import Derived.Laws.OwnMore
import Derived.Deep.OwnRows
import Derived.Tactics
import Derived.Lib.ConvBytes
import Derived.Laws.Slices
import Derived.WalkKit
import Derived.KernelRfl
import Derived.RowKit3
import Derived.Deep.LoopGhost
import Derived.Deep.QuietTactic
import Derived.BigQuiet
import Derived.WideLaws
import Derived.Deep.DeepCutAuto
import Derived.Deep.CutBlock
import Derived.Deep.RegionHeld3
import Derived.Laws.Rows
import Derived.Lib.AppendStr
import Derived.ArgAppend
import Derived.Laws.IdiomCopy
import Derived.OrdersHeld
import Derived.Laws.BitsLemmas
import Derived.RowKit
import Derived.Test.YtcpaajecppplhaaGreatDoorXN0
import Derived.Test.YtcpaajecppplhaaGreatDoorXN1
import Derived.Test.YtcpaajecppplhaaGreatDoorXN2
import Derived.Test.YtcpaajecppplhaaGreatDoorXN3
import Derived.Test.YtcpaajecppplhaaGreatDoorXN17
import Derived.Test.YtcpaajecppplhaaGreatDoorXN29
section
/- num.divided, where what is left is to be adjusted. -/
namespace Go.Proofs.YtcpaajecppplhaaGreatDoor.Hd
open Go.RowKit Go.Proofs.YtcpaajecppplhaaGreatDoorW.PrintWords Go.Proofs.YtcpaajecppplhaaGreatDoorW.PrintLast Go.Proofs.YtcpaajecppplhaaGreatDoorW.PrintMore Go.Proofs.YtcpaajecppplhaaGreatDoor.B Go.Lib Go.Shelf Go.Proofs.YtcpaajecppplhaaGreatDoor.Nm
set_option linter.unusedVariables false
set_option linter.unusedSimpArgs false
theorem mg_one : il (mg 1) = [1] := by
  rw [mg_pos (by decide), show (1 : Nat) / 1000000000 = 0 from rfl, mg_zero]
  rfl
theorem one_reads (W : World) (b : Nat) (h : W.heap[b]? = some (.cells #[.int .u64 1] 188 (0, 0))) : Kd.C (Kd.int .u64) W (some ⟨b, 0, none⟩) ([1] : List Int).length [1] :=
  ⟨rfl, by decide, fun _ => ⟨⟨b, 0, none⟩, rfl, fun j p hp => ⟨[.int .u64 p], rfl, rfl, fun i u hu => by
    cases j with
    | zero =>
      simp at hp
      subst hp
      cases i with
      | zero =>
        simp at hu
        subst hu
        have := Lib.cell_of_heap h 0
        simp only [Nat.zero_mul, Nat.add_zero]
        rw [Addr.add_lit]
        simpa using this
      | succ i => simp at hu
    | succ j => simp at hp⟩⟩⟩
set_option maxHeartbeats 8000000 in
set_option maxRecDepth 100000 in
theorem divided_adj (X Y : Nat) (hY : 0 < Y) (a b : Bool) (A0 A1 : Option Addr) (c0 c1 : Nat) (l0 l1 : List Int) (w : World) (h0 : l0 = il (mg X)) (h1 : l1 = il (mg Y)) (hr0 : Kd.C (Kd.int .u64) w A0 l0.length l0) (hr1 : Kd.C (Kd.int .u64) w A1 l1.length l1) (hc1 : l1.length ≤ c1) (hX : (decDigits X).length ≤ 900) (hYd : (decDigits Y).length ≤ 900) (hadj : 0 < X % Y ∧ a ≠ b) :
    Calls Tryz.prog 164 #[.agg #[.slice A0 l0.length c0, .bool a], .agg #[.slice A1 l1.length c1, .bool b]] w fun e w' => ∃ v1 v2, e = .returned (.tuple #[.agg #[v1, .bool (divW X a Y b).1.2], .agg #[v2, .bool (divW X a Y b).2.2]]) ∧
      Kd.V (Kd.int .u64) 188 w' w.heap.size (fun k_ => w.heap.size ≤ k_) v1 (il (mg (divW X a Y b).1.1)) ∧ Kd.V (Kd.int .u64) 188 w' w.heap.size (fun k_ => w.heap.size ≤ k_) v2 (il (mg (divW X a Y b).2.1)) ∧ Below w.heap.size w w' := by
  have HR0 := Aside0.mk hr0
  have HR1 := Aside0.mk hr1
  have HC1 := Aside0.mk hc1
  have E0 := Aside0.mk h0
  have E1 := Aside0.mk h1
  have HY := Aside0.mk hY
  have HX := Aside0.mk hX
  have HYD := Aside0.mk hYd
  have hlx : l0.length ≤ 50000 := by rw [h0, il_len]; have := mg_len_nl hX; omega
  have hly : l1.length ≤ 50000 := by rw [h1, il_len]; have := mg_len_nl hYd; omega
  have HLX := Aside0.mk hlx
  have HLY := Aside0.mk hly
  clear hr0 hr1 hc1 h0 h1 hY hX hYd hlx hly
  have mixed : Tryz.prog.follows .mixedOrders = true := by kernel_rfl
  obtain ⟨V, hV⟩ : ∃ V, V = ((((w.alloc (.cells #[.slice A0 l0.length c0, .bool a] 161)).alloc (.cells #[.slice A1 l1.length c1, .bool b] 161)).alloc (.cells #[.slice none 0 0, .bool false] 161)).alloc (.cells #[.slice none 0 0, .bool false] 161) : World) := ⟨_, rfl⟩
  have hVs : V.heap.size = w.heap.size + 4 := by rw [hV]; simp
  have hBV : Below w.heap.size w V := by
    rw [hV]
    exact ((((Below.refl _ w).alloc (Nat.le_refl _) _).alloc (by simp) _).alloc (by simp; omega) _).alloc (by simp; omega) _
  have v0 : V.heap[w.heap.size]? = some (.cells #[.slice A0 l0.length c0, .bool a] 161 (0, 0)) := by
    rw [hV, heap_alloc_old _ _ (by simp <;> omega), heap_alloc_old _ _ (by simp <;> omega), heap_alloc_old _ _ (by simp), heap_alloc_new]
  have v1 : V.heap[w.heap.size + 1]? = some (.cells #[.slice A1 l1.length c1, .bool b] 161 (0, 0)) := by
    rw [hV, heap_alloc_old _ _ (by simp <;> omega), heap_alloc_old _ _ (by simp)]
    have := heap_alloc_new (w.alloc (.cells #[.slice A0 l0.length c0, .bool a] 161)) (.cells #[.slice A1 l1.length c1, .bool b] 161)
    rwa [World.size_alloc] at this
  have v2 : V.heap[w.heap.size + 1 + 1]? = some (.cells #[.slice none 0 0, .bool false] 161 (0, 0)) := by
    rw [hV, heap_alloc_old _ _ (by simp)]
    have := heap_alloc_new ((w.alloc (.cells #[.slice A0 l0.length c0, .bool a] 161)).alloc (.cells #[.slice A1 l1.length c1, .bool b] 161)) (.cells #[.slice none 0 0, .bool false] 161)
    rwa [World.size_alloc, World.size_alloc] at this
  have v3 : V.heap[w.heap.size + 1 + 1 + 1]? = some (.cells #[.slice none 0 0, .bool false] 161 (0, 0)) := by
    rw [hV]
    have := heap_alloc_new (((w.alloc (.cells #[.slice A0 l0.length c0, .bool a] 161)).alloc (.cells #[.slice A1 l1.length c1, .bool b] 161)).alloc (.cells #[.slice none 0 0, .bool false] 161)) (.cells #[.slice none 0 0, .bool false] 161)
    rwa [World.size_alloc, World.size_alloc, World.size_alloc] at this
  have HQ := Aside0.mk ((quotient_walk X Y HY.out _ _ c0 _ l0 l1 V E0.out E1.out (Kd.C_below HR0.out hBV) (Kd.C_below HR1.out hBV) HC1.out HLX.out HLY.out).mono (R' := fun e W1 => ∃ A2 n2 c2 A3 n3 c3, e = .returned (.tuple #[.slice A2 n2 c2, .slice A3 n3 c3]) ∧ Aside0 (n2 = (il (mg (X / Y))).length ∧ n3 = (il (mg (X % Y))).length ∧ Kd.V (Kd.int .u64) 188 W1 w.heap.size (fun k_ => w.heap.size + 4 ≤ k_) (.slice A2 n2 c2) (il (mg (X / Y))) ∧ Kd.V (Kd.int .u64) 188 W1 w.heap.size (fun k_ => w.heap.size + 4 ≤ k_) (.slice A3 n3 c3) (il (mg (X % Y))) ∧ Below V.heap.size V W1)) (by
    rintro e W1 ⟨qv, rv, rfl, hq, hr, hb⟩
    obtain ⟨A2, c2, rfl⟩ := Kd.R_slice hq
    obtain ⟨A3, c3, rfl⟩ := Kd.R_slice hr
    exact ⟨A2, _, c2, A3, _, c3, rfl, ⟨rfl, rfl, Kd.V_mono (Kd.R_V hq) (fun k hk => by omega), Kd.V_mono (Kd.R_V (Kd.R_bound hr)) (fun k hk => by have := hk.2.1; omega), hb⟩⟩))
  rw [hV] at HQ
  have hu := Tryz.underlying161
  have hdw : ∀ n : Nat, decide ((0 : Int) < (n : Int)) = decide (0 < n) := fun n => by by_cases h : 0 < n <;> simp [h]
  have hdv : divW X a Y b = (plusW (X / Y) ((a != b) && decide (0 < X / Y)) 1 true, plusW (X % Y) (a && decide (0 < X % Y)) Y b) := if_pos hadj
  have HDV := Aside0.mk hdv
  have hz := hadj.1
  clear hdv
  cases a <;> cases b
  · exact absurd rfl hadj.2
  · clear hadj
    go_enter Tryz.func164, Tryz.ntmps164
    go_wp2_with (go_at_call 199; refine HQ.out.mono ?_; rintro e W1 ⟨A2, n2, c2, A3, n3, c3, rfl, HS⟩; have hb := HS.out.2.2.2.2; rw [← hV] at hb; have p0 := hold_b v0 hb; have p1 := hold_b v1 hb; have p2 := hold_b v2 hb; have p3 := hold_b v3 hb; have HP := Aside0.mk (And.intro p0 (And.intro p1 (And.intro p2 (And.intro p3 hb)))); have g0 := Lib.cell_of_heap p0 1; have g1 := Lib.cell_of_heap p1 1; have G0 : ∀ o1 o2, ((W1.alloc o1).alloc o2).cell? ⟨w.heap.size, 1, none⟩ = _ := (fun o1 o2 => ((((Below.refl _ W1).alloc (Nat.le_refl _) o1).alloc (by simp) o2).cell (p := ⟨w.heap.size, 1, none⟩) (Array.getElem?_eq_some_iff.1 p0).1).trans g0); have G1 : ∀ o1 o2, ((W1.alloc o1).alloc o2).cell? ⟨w.heap.size + 1, 1, none⟩ = _ := (fun o1 o2 => ((((Below.refl _ W1).alloc (Nat.le_refl _) o1).alloc (by simp) o2).cell (p := ⟨w.heap.size + 1, 1, none⟩) (Array.getElem?_eq_some_iff.1 p1).1).trans g1); (have hn3 : decide ((0 : Int) < (n3 : Int)) = decide (0 < X % Y) := (by rw [hdw, HS.out.2.1, mg_len0])); rw [decide_eq_true hz] at hn3; (have hn3p := of_decide_eq_true hn3); clear hb p0 p1 p2 p3)
    obtain ⟨xb, hxb⟩ : ∃ xb, xb = decide (0 < n2) := ⟨_, rfl⟩
    rw [← hxb]
    rw [HS.out.1, mg_len0] at hxb
    have e2 := HS.out.1
    have e3 := HS.out.2.1
    have hv2 := HS.out.2.2.1
    have hv3 := HS.out.2.2.2.1
    obtain ⟨lq, hlq⟩ : ∃ l, l = il (mg (X / Y)) := ⟨_, rfl⟩
    obtain ⟨lr, hlr⟩ : ∃ l, l = il (mg (X % Y)) := ⟨_, rfl⟩
    rw [← hlq] at e2 hv2
    rw [← hlr] at e3 hv3
    subst e2 e3
    have HV2 := Aside0.mk hv2
    have HV3 := Aside0.mk hv3
    have HXB := Aside0.mk hxb
    clear HS hv2 hv3 hxb hn3 hn3p
    obtain ⟨W2, hW2⟩ : ∃ W2, W2 = ((W1.alloc (.cells #[.slice A2 lq.length c2, .bool xb] 161)).alloc (.cells #[.slice A3 lr.length c3, .bool false] 161) : World) := ⟨_, rfl⟩
    have B8 : W2.heap[W1.heap.size]? = some (.cells #[.slice A2 lq.length c2, .bool xb] 161 (0, 0)) := by rw [hW2, heap_alloc_old _ _ (by simp), heap_alloc_new]
    have B9 : W2.heap[W1.heap.size + 1]? = some (.cells #[.slice A3 lr.length c3, .bool false] 161 (0, 0)) := by
      rw [hW2]
      have := heap_alloc_new (W1.alloc (.cells #[.slice A2 lq.length c2, .bool xb] 161)) (.cells #[.slice A3 lr.length c3, .bool false] 161)
      rwa [World.size_alloc] at this
    have hb2 : Below W1.heap.size W1 W2 := by rw [hW2]; exact ((Below.refl _ W1).alloc (Nat.le_refl _) _).alloc (by simp) _
    have HS2 := Aside0.mk (show W2.heap.size = W1.heap.size + 2 by rw [hW2]; simp)
    have hb2s := hb2.size
    rw [← hW2]
    clear hW2 G0 G1 g0 g1
    have P1 := hold_b HP.out.2.1 hb2
    have P2 := hold_b HP.out.2.2.1 hb2
    have P3 := hold_b HP.out.2.2.2.1 hb2
    have hsz1 : w.heap.size + 4 ≤ W1.heap.size := by have := HP.out.2.2.2.2.size; omega
    have far : ∀ (U : World) (b j i : Nat) (u : Value), b ≠ i → (U.setCell ⟨b, j, none⟩ u).heap[i]? = U.heap[i]? := fun U b j i u h => Below.heap_setCell U ⟨b, j, none⟩ u i (fun e => h e.symm)
    have hbU1 : Below W2.heap.size W2 (W2.drew.alloc (.cells #[.int .u64 1] 188)) := (below_drew (Below.refl _ W2)).alloc (Nat.le_refl _) _
    have hone : Kd.C (Kd.int .u64) (W2.drew.alloc (.cells #[.int .u64 1] 188)) (some ⟨W2.heap.size, 0, none⟩) ([1] : List Int).length [1] := one_reads _ _ (heap_alloc_new W2.drew _)
    obtain ⟨k1, hk1⟩ := (wplus_ev (X / Y) 1 xb true (by have := HX.out; have := dec_mono (Nat.div_le_self X Y); omega) (by rw [decDigits_one (show 1 < 10 by decide)]; decide)).rounds
    obtain ⟨k2, hk2⟩ := (wplus_ev (X % Y) Y false true (by have := HYD.out; have := dec_mono (Nat.le_of_lt (Nat.mod_lt X HY.out)); omega) (by have := HYD.out; omega)).rounds
    rw [mg_one, ← hlq] at hk1
    rw [← E1.out, ← hlr] at hk2
    obtain ⟨m1, hm1⟩ : ∃ l, l = il (mg (plusW (X / Y) xb 1 true).1) := ⟨_, rfl⟩
    obtain ⟨s1, hs1⟩ : ∃ l, l = (plusW (X / Y) xb 1 true).2 := ⟨_, rfl⟩
    obtain ⟨m2, hm2⟩ : ∃ l, l = il (mg (plusW (X % Y) false Y true).1) := ⟨_, rfl⟩
    obtain ⟨s2, hs2⟩ : ∃ l, l = (plusW (X % Y) false Y true).2 := ⟨_, rfl⟩
    rw [← hm1, ← hs1] at hk1
    rw [← hm2, ← hs2] at hk2
    have HM := Aside0.mk (And.intro hm1 (And.intro hs1 (And.intro hm2 hs2)))
    clear hm1 hs1 hm2 hs2 hlq hlr
    have HC1_ := Aside0.mk (Go.Proofs.YtcpaajecppplhaaGreatDoor.L.num_plus.calls k1 A2 c2 lq xb (some ⟨W2.heap.size, 0, none⟩) 1 [1] true m1 s1 (W2.drew.alloc (.cells #[.int .u64 1] 188)) (Kd.V_reads' (Kd.V_below HV2.out (hb2.trans (hbU1.mono hb2.size)))).2.2 (Kd.V_reads' HV2.out).2.1 hone (Nat.le_refl 1) hk1)
    have HK1 := Aside0.mk hk1
    have HK2 := Aside0.mk hk2
    clear hk1 hk2
    have HSU := Aside0.mk (show ∀ U, Below W2.heap.size W2 U → U.cell? ⟨W1.heap.size, 0, none⟩ = some (.slice A2 lq.length c2) ∧ U.cell? ⟨W1.heap.size, 1, none⟩ = some (.bool xb) ∧ U.cell? ⟨W1.heap.size + 1, 0, none⟩ = some (.slice A3 lr.length c3) ∧ U.cell? ⟨W1.heap.size + 1, 1, none⟩ = some (.bool false) ∧ U.cell? ⟨w.heap.size + 1, 0, none⟩ = some (.slice A1 l1.length c1) ∧ U.cell? ⟨w.heap.size + 1, 1, none⟩ = some (.bool true) from fun U hU =>
      ⟨Lib.cell_of_heap (hold_b B8 hU) 0, Lib.cell_of_heap (hold_b B8 hU) 1, Lib.cell_of_heap (hold_b B9 hU) 0, Lib.cell_of_heap (hold_b B9 hU) 1, Lib.cell_of_heap (hold_b P1 hU) 0, Lib.cell_of_heap (hold_b P1 hU) 1⟩)
    refine region_top (m := 9) (S := fun U => U.cell? ⟨W1.heap.size, 0, none⟩ = some (.slice A2 lq.length c2) ∧ U.cell? ⟨W1.heap.size, 1, none⟩ = some (.bool xb) ∧ U.cell? ⟨W1.heap.size + 1, 0, none⟩ = some (.slice A3 lr.length c3) ∧ U.cell? ⟨W1.heap.size + 1, 1, none⟩ = some (.bool false) ∧ U.cell? ⟨w.heap.size + 1, 0, none⟩ = some (.slice A1 l1.length c1) ∧ U.cell? ⟨w.heap.size + 1, 1, none⟩ = some (.bool true)) (ds := [7, 8]) #[false, false, false, false, false, false, false, false, false] mixed rfl rfl (HSU.out _ (below_drew (Below.refl _ _))) (fun hHeld => ?_)
    refine take_ (i := 0) (N := (some 49)) (v := ?_) (a' := ?_) #[true, false, false, false, false, false, false, false, false] rfl rfl (by kernel_rfl) (fun _ _ _ h => absurd h.1 (by intro e; cases e)) (Or.inl ⟨by rfl, ?_⟩) hHeld ?_ ?_
    rotate_left
    · intro w' hS
      obtain ⟨s0, s1, s2, s3, s4, s5⟩ := hS; go_simp; (try with_reducible rfl)
    rotate_left
    · simp only [Act.put, List.setIfInBounds_toArray, List.set_cons_zero, List.set_cons_succ]
      rfl
    refine take_ (i := 4) (N := (some 53)) (v := ?_) (a' := ?_) #[true, false, false, false, true, false, false, false, false] rfl rfl (by kernel_rfl) (fun _ _ _ h => absurd h.1 (by intro e; cases e)) (Or.inl ⟨by rfl, ?_⟩) hHeld ?_ ?_
    rotate_left
    · intro w' hS
      obtain ⟨s0, s1, s2, s3, s4, s5⟩ := hS; go_simp; (try with_reducible rfl)
    rotate_left
    · simp only [Act.put, List.setIfInBounds_toArray, List.set_cons_zero, List.set_cons_succ]
      rfl
    refine take_ (i := 5) (N := (some 54)) (v := ?_) (a' := ?_) #[true, false, false, false, true, true, false, false, false] rfl rfl (by kernel_rfl) (fun _ _ _ h => absurd h.1 (by intro e; cases e)) (Or.inl ⟨by rfl, ?_⟩) hHeld ?_ ?_
    rotate_left
    · intro w' hS
      obtain ⟨s0, s1, s2, s3, s4, s5⟩ := hS; go_simp; (try with_reducible rfl)
    rotate_left
    · simp only [Act.put, List.setIfInBounds_toArray, List.set_cons_zero, List.set_cons_succ]
      rfl
    refine one_ (i := 1) (N := (some 50)) #[true, true, false, false, true, true, false, false, false] rfl rfl (by kernel_rfl) (by decide) (fun K hK => ?_)
    rw [if_pos (by rfl)]
    unfold Oper.wp
    go_simp
    refine hK.out _ _ (HSU.out _ ((below_drew (Below.refl _ W2)).alloc (Nat.le_refl _) _)) (fun hHeld => ?_)
    clear hK K
    refine pure_ (i := 2) (N := (some 51)) (v := ?_) (a' := ?_) #[true, true, true, false, true, true, false, false, false] rfl rfl (by kernel_rfl) (fun _ _ _ h => absurd h.1 (by intro e; cases e)) (Or.inl ⟨by rfl, ?_⟩) ?_ ?_
    rotate_left
    · intro w'
      go_simp
      with_reducible rfl
    rotate_left
    · simp only [Act.put, List.setIfInBounds_toArray, List.set_cons_zero, List.set_cons_succ]
      rfl
    refine one_ (i := 3) (N := (some 52)) #[true, true, true, true, true, true, false, false, false] rfl rfl (by kernel_rfl) (by decide) (fun K hK => ?_)
    rw [if_pos (by rfl)]
    unfold Oper.wp
    go_simp
    refine HC1_.out.mono ?_
    rintro e U2 ⟨w1, rfl, hV1, hbU2⟩
    obtain ⟨A4, c4, rfl⟩ := Kd.V_slice hV1
    have hb02 : Below W2.heap.size W2 U2 := hbU1.trans (hbU2.mono hbU1.size)
    refine hK.out _ _ (HSU.out _ hb02) (fun hHeld => ?_)
    clear hK K
    refine one_ (i := 6) (N := (some 55)) #[true, true, true, true, true, true, true, false, false] rfl rfl (by kernel_rfl) (by decide) (fun K hK => ?_)
    rw [if_pos (by rfl)]
    unfold Oper.wp
    go_simp
    refine (Go.Proofs.YtcpaajecppplhaaGreatDoor.L.num_plus.calls k2 _ _ lr false _ _ l1 true m2 s2 _ (Kd.V_reads' (Kd.V_below HV3.out (hb2.trans (hb02.mono hb2.size)))).2.2 (Kd.V_reads' HV3.out).2.1 (Kd.C_below HR1.out (hBV.trans ((HP.out.2.2.2.2.mono (by omega)).trans ((hb2.mono (by omega)).trans (hb02.mono (by omega)))))) HC1.out HK2.out).mono ?_
    rintro e U3 ⟨w2, rfl, hV2, hbU3⟩
    obtain ⟨A5, c5, rfl⟩ := Kd.V_slice hV2
    have hb03 : Below W2.heap.size W2 U3 := hb02.trans (hbU3.mono hb02.size)
    have Q8 := hold_b B8 hb03
    have Q9 := hold_b B9 hb03
    have i80 := Lib.cell_of_heap Q8 0
    have i81 := Lib.cell_of_heap Q8 1
    have z8 : ∀ j, U3.frozen? ⟨W1.heap.size, j, none⟩ = false := fun j => by simp [World.frozen?, Q8]
    have Q9' : ((U3.setCell ⟨W1.heap.size, 0, none⟩ (.slice A4 m1.length c4)).setCell ⟨W1.heap.size, 1, none⟩ (.bool s1)).heap[W1.heap.size + 1]? = _ := ((far _ _ _ _ _ (by omega)).trans (far _ _ _ _ _ (by omega))).trans Q9
    have i90 := Lib.cell_of_heap Q9' 0
    have i91 := Lib.cell_of_heap Q9' 1
    have z9 : ∀ j, ((U3.setCell ⟨W1.heap.size, 0, none⟩ (.slice A4 m1.length c4)).setCell ⟨W1.heap.size, 1, none⟩ (.bool s1)).frozen? ⟨W1.heap.size + 1, j, none⟩ = false := fun j => by simp [World.frozen?, Q9']
    refine hK.out _ _ (HSU.out _ hb03) (fun hHeld => ?_)
    clear hK K
    refine last_ (i := 7) (N := none) #[true, true, true, true, true, true, true, true, false] rfl rfl (by kernel_rfl) (by decide) (fun K hK => ?_)
    rw [if_pos (by rfl)]
    unfold Oper.wp
    go_simp
    refine hK.out _ _ ?_
    clear hK K
    refine last_ (i := 8) (N := none) #[true, true, true, true, true, true, true, true, true] rfl rfl (by kernel_rfl) (by decide) (fun K hK => ?_)
    rw [if_pos (by rfl)]
    unfold Oper.wp
    go_simp
    refine hK.out _ _ ?_
    clear hK K
    refine done_ (by kernel_rfl) ?_
    refine ⟨rfl, ?_⟩
    go_wp2
    obtain ⟨W3, hW3⟩ : ∃ W3, W3 = ((((U3.setCell ⟨W1.heap.size, 0, none⟩ (.slice A4 m1.length c4)).setCell ⟨W1.heap.size, 1, none⟩ (.bool s1)).setCell ⟨W1.heap.size + 1, 0, none⟩ (.slice A5 m2.length c5)).setCell ⟨W1.heap.size + 1, 1, none⟩ (.bool s2) : World) := ⟨_, rfl⟩
    have hU2s : W2.heap.size ≤ U2.heap.size := hb02.size
    have C8 : W3.heap[W1.heap.size]? = some (.cells #[.slice A4 m1.length c4, .bool s1] 161 (0, 0)) := by
      rw [hW3]
      exact ((far _ _ _ _ _ (by omega)).trans (far _ _ _ _ _ (by omega))).trans (blk_put (blk_put Q8 0 _ rfl) 1 _ rfl)
    have C9 : W3.heap[W1.heap.size + 1]? = some (.cells #[.slice A5 m2.length c5, .bool s2] 161 (0, 0)) := by
      rw [hW3]
      exact blk_put (blk_put Q9' 0 _ rfl) 1 _ rfl
    have keep : ∀ i, i ≠ W1.heap.size → i ≠ W1.heap.size + 1 → W3.heap[i]? = U3.heap[i]? := fun i h1 h2 => by
      rw [hW3]
      exact ((far _ _ _ _ _ (fun e => h2 e.symm)).trans (far _ _ _ _ _ (fun e => h2 e.symm))).trans ((far _ _ _ _ _ (fun e => h1 e.symm)).trans (far _ _ _ _ _ (fun e => h1 e.symm)))
    have C2 := (keep (w.heap.size + 1 + 1) (by omega) (by omega)).trans (hold_b P2 hb03)
    have C3 := (keep (w.heap.size + 1 + 1 + 1) (by omega) (by omega)).trans (hold_b P3 hb03)
    have hvq : Kd.V (Kd.int .u64) 188 W3 w.heap.size (fun k_ => W1.heap.size + 2 ≤ k_) (.slice A4 m1.length c4) m1 := by
      have := HS2.out
      have := hbU1.size
      rw [hW3]
      exact Kd.V_far (Kd.V_far (Kd.V_far (Kd.V_far (Kd.V_mono (Kd.V_below hV1 hbU3) (fun k hk => by omega)) (fun k hk => by show _ ≠ _; simp only; omega) _) (fun k hk => by show _ ≠ _; simp only; omega) _) (fun k hk => by show _ ≠ _; simp only; omega) _) (fun k hk => by show _ ≠ _; simp only; omega) _
    have hvr : Kd.V (Kd.int .u64) 188 W3 w.heap.size (fun k_ => W1.heap.size + 2 ≤ k_) (.slice A5 m2.length c5) m2 := by
      have := HS2.out
      rw [hW3]
      exact Kd.V_far (Kd.V_far (Kd.V_far (Kd.V_far (Kd.V_mono hV2 (fun k hk => by omega)) (fun k hk => by show _ ≠ _; simp only; omega) _) (fun k hk => by show _ ≠ _; simp only; omega) _) (fun k hk => by show _ ≠ _; simp only; omega) _) (fun k hk => by show _ ≠ _; simp only; omega) _
    have hb3 : Below w.heap.size w W3 := by
      rw [hW3]
      exact (((((hBV.trans (HP.out.2.2.2.2.mono (by omega))).trans (hb2.mono (by omega))).trans (hb03.mono (by omega))).setCell (by show _ ≤ _; simp only; omega) _).setCell (by show _ ≤ _; simp only; omega) _).setCell (by show _ ≤ _; simp only; omega) _ |>.setCell (by show _ ≤ _; simp only; omega) _
    rw [← hW3]
    have HVQ := Aside0.mk hvq
    have HVR := Aside0.mk hvr
    have HB3 := Aside0.mk hb3
    clear hW3 hvq hvr hb3 far keep Q8 Q9 Q9' i80 i81 i90 i91 z8 z9 hV1 hV2 P1 P2 P3 B8 B9 hU2s hb03 hbU3 hb02 hbU2 hbU1 hone hb2s
    have c80 : W3.cell? ⟨W1.heap.size, 0, none⟩ = some (.slice A4 m1.length c4) := Lib.cell_of_heap C8 0
    have c81 : W3.cell? ⟨W1.heap.size, 1, none⟩ = some (.bool s1) := Lib.cell_of_heap C8 1
    have c90 : W3.cell? ⟨(W1.heap.size + 1), 0, none⟩ = some (.slice A5 m2.length c5) := Lib.cell_of_heap C9 0
    have c91 : W3.cell? ⟨(W1.heap.size + 1), 1, none⟩ = some (.bool s2) := Lib.cell_of_heap C9 1
    have far : ∀ (U : World) (b j i : Nat) (u : Value), b ≠ i → (U.setCell ⟨b, j, none⟩ u).heap[i]? = U.heap[i]? := fun U b j i u h => Below.heap_setCell U ⟨b, j, none⟩ u i (fun e => h e.symm)
    have K4 : ∀ i, i ≠ w.heap.size + 1 + 1 → ((W3.setCell ⟨w.heap.size + 1 + 1, 0, none⟩ (.slice A4 m1.length c4)).setCell ⟨w.heap.size + 1 + 1, 1, none⟩ (.bool s1)).heap[i]? = W3.heap[i]? := fun i h => (far _ _ _ _ _ (fun e => h e.symm)).trans (far _ _ _ _ _ (fun e => h e.symm))
    have F8 := (K4 (W1.heap.size) (by omega)).trans C8
    have F9 := (K4 ((W1.heap.size + 1)) (by omega)).trans C9
    have F3 := (K4 (w.heap.size + 1 + 1 + 1) (by omega)).trans C3
    have e80 := Lib.cell_of_heap F8 0
    have e81 := Lib.cell_of_heap F8 1
    have e90 := Lib.cell_of_heap F9 0
    have e91 := Lib.cell_of_heap F9 1
    have e30 := Lib.cell_of_heap F3 0
    have e31 := Lib.cell_of_heap F3 1
    have d0 := Lib.cell_of_heap C2 0
    have d1 := Lib.cell_of_heap C2 1
    have fz2 : ∀ j, W3.frozen? ⟨w.heap.size + 1 + 1, j, none⟩ = false := fun j => by simp [World.frozen?, C2]
    have fz3 : ∀ j, ((W3.setCell ⟨w.heap.size + 1 + 1, 0, none⟩ (.slice A4 m1.length c4)).setCell ⟨w.heap.size + 1 + 1, 1, none⟩ (.bool s1)).frozen? ⟨w.heap.size + 1 + 1 + 1, j, none⟩ = false := fun j => by simp [World.frozen?, F3]
    refine region_top (m := 4) (S := fun w' => w'.cell? ⟨W1.heap.size, 0, none⟩ = some (.slice A4 m1.length c4) ∧ w'.cell? ⟨W1.heap.size, 1, none⟩ = some (.bool s1) ∧ w'.cell? ⟨(W1.heap.size + 1), 0, none⟩ = some (.slice A5 m2.length c5) ∧ w'.cell? ⟨(W1.heap.size + 1), 1, none⟩ = some (.bool s2)) (ds := [3]) #[false, false, false, false] mixed rfl rfl ⟨c80, c81, c90, c91⟩ (fun hHeld => ?_)
    refine take_ (i := 0) (N := (some 56)) (v := ?_) (a' := ?_) #[true, false, false, false] rfl rfl (by kernel_rfl) (fun _ _ _ h => absurd h.1 (by intro e; cases e)) (Or.inl ⟨by rfl, ?_⟩) hHeld ?_ ?_
    rotate_left
    · intro w' hS
      obtain ⟨s0, s1, s2, s3⟩ := hS; go_simp; (try with_reducible rfl)
    rotate_left
    · simp only [Act.put, List.setIfInBounds_toArray, List.set_cons_zero, List.set_cons_succ]
      rfl
    refine take_ (i := 1) (N := (some 57)) (v := ?_) (a' := ?_) #[true, true, false, false] rfl rfl (by kernel_rfl) (fun _ _ _ h => absurd h.1 (by intro e; cases e)) (Or.inl ⟨by rfl, ?_⟩) hHeld ?_ ?_
    rotate_left
    · intro w' hS
      obtain ⟨s0, s1, s2, s3⟩ := hS; go_simp; (try with_reducible rfl)
    rotate_left
    · simp only [Act.put, List.setIfInBounds_toArray, List.set_cons_zero, List.set_cons_succ]
      rfl
    refine one_ (i := 2) (N := none) #[true, true, true, false] rfl rfl (by kernel_rfl) (by decide) (fun K hK => ?_)
    rw [if_pos (by rfl)]
    unfold Oper.wp
    go_simp
    refine hK.out _ _ ⟨by simpa using e80, by simpa using e81, by simpa using e90, by simpa using e91⟩ (fun hHeld => ?_)
    clear hK K
    refine last_ (i := 3) (N := none) #[true, true, true, true] rfl rfl (by kernel_rfl) (by decide) (fun K hK => ?_)
    rw [if_pos (by rfl)]
    unfold Oper.wp
    go_simp
    refine hK.out _ _ ?_
    clear hK K
    refine done_ (by kernel_rfl) ?_
    refine ⟨rfl, ?_⟩
    go_wp2
    have R4 := blk_put (blk_put C2 0 (.slice A4 m1.length c4) rfl) 1 (.bool s1) rfl
    have R5 := blk_put (blk_put F3 0 (.slice A5 m2.length c5) rfl) 1 (.bool s2) rfl
    have R4' : ((((W3.setCell ⟨w.heap.size + 1 + 1, 0, none⟩ (.slice A4 m1.length c4)).setCell ⟨w.heap.size + 1 + 1, 1, none⟩ (.bool s1)).setCell ⟨w.heap.size + 1 + 1 + 1, 0, none⟩ (.slice A5 m2.length c5)).setCell ⟨w.heap.size + 1 + 1 + 1, 1, none⟩ (.bool s2)).heap[w.heap.size + 1 + 1]? = _ := ((far _ _ _ _ _ (by omega)).trans (far _ _ _ _ _ (by omega))).trans R4
    have r40 := cell_drew0 R4'
    have r41 := cell_drew1 R4'
    have r50 := cell_drew0 R5
    have r51 := cell_drew1 R5
    refine bodyPost_ret (results_whole2 rfl _ _ (w.heap.size + 1 + 1) (w.heap.size + 1 + 1 + 1) (.slice A4 m1.length c4) (.slice A5 m2.length c5) s1 s2 rfl rfl rfl rfl r40 r41 r50 r51) rfl ?_
    refine ⟨.slice A4 m1.length c4, .slice A5 m2.length c5, ?_, ?_, ?_, ?_⟩
    · rw [HDV.out, HM.out.2.1, HM.out.2.2.2, HXB.out]
      first | rfl | (rw [decide_eq_true hz]; rfl)
    · rw [HDV.out]
      have e : il (mg (plusW (X / Y) ((false != true) && decide (0 < X / Y)) 1 true).1) = m1 := by rw [HM.out.1, HXB.out]; rfl
      show Kd.V (Kd.int .u64) 188 _ _ _ _ (il (mg (plusW (X / Y) ((false != true) && decide (0 < X / Y)) 1 true).1))
      rw [e]
      exact Kd.V_mono (Kd.V_drew (Kd.V_far (Kd.V_far (Kd.V_far (Kd.V_far HVQ.out (fun k hk => by show _ ≠ _; simp only; omega) _) (fun k hk => by show _ ≠ _; simp only; omega) _) (fun k hk => by show _ ≠ _; simp only; omega) _) (fun k hk => by show _ ≠ _; simp only; omega) _)) (fun k hk => by omega)
    · rw [HDV.out]
      have e : il (mg (plusW (X % Y) (false && decide (0 < X % Y)) Y true).1) = m2 := by
        rw [HM.out.2.2.1, decide_eq_true hz]
        rfl
      show Kd.V (Kd.int .u64) 188 _ _ _ _ (il (mg (plusW (X % Y) (false && decide (0 < X % Y)) Y true).1))
      rw [e]
      exact Kd.V_mono (Kd.V_drew (Kd.V_far (Kd.V_far (Kd.V_far (Kd.V_far HVR.out (fun k hk => by show _ ≠ _; simp only; omega) _) (fun k hk => by show _ ≠ _; simp only; omega) _) (fun k hk => by show _ ≠ _; simp only; omega) _) (fun k hk => by show _ ≠ _; simp only; omega) _)) (fun k hk => by omega)
    · exact below_drew (((HB3.out.setCell (by show _ ≤ _; simp only; omega) _).setCell (by show _ ≤ _; simp only; omega) _).setCell (by show _ ≤ _; simp only; omega) _ |>.setCell (by show _ ≤ _; simp only; omega) _)
  · clear hadj
    go_enter Tryz.func164, Tryz.ntmps164
    go_wp2_with (go_at_call 199; refine HQ.out.mono ?_; rintro e W1 ⟨A2, n2, c2, A3, n3, c3, rfl, HS⟩; have hb := HS.out.2.2.2.2; rw [← hV] at hb; have p0 := hold_b v0 hb; have p1 := hold_b v1 hb; have p2 := hold_b v2 hb; have p3 := hold_b v3 hb; have HP := Aside0.mk (And.intro p0 (And.intro p1 (And.intro p2 (And.intro p3 hb)))); have g0 := Lib.cell_of_heap p0 1; have g1 := Lib.cell_of_heap p1 1; have G0 : ∀ o1 o2, ((W1.alloc o1).alloc o2).cell? ⟨w.heap.size, 1, none⟩ = _ := (fun o1 o2 => ((((Below.refl _ W1).alloc (Nat.le_refl _) o1).alloc (by simp) o2).cell (p := ⟨w.heap.size, 1, none⟩) (Array.getElem?_eq_some_iff.1 p0).1).trans g0); have G1 : ∀ o1 o2, ((W1.alloc o1).alloc o2).cell? ⟨w.heap.size + 1, 1, none⟩ = _ := (fun o1 o2 => ((((Below.refl _ W1).alloc (Nat.le_refl _) o1).alloc (by simp) o2).cell (p := ⟨w.heap.size + 1, 1, none⟩) (Array.getElem?_eq_some_iff.1 p1).1).trans g1); (have hn3 : decide ((0 : Int) < (n3 : Int)) = decide (0 < X % Y) := (by rw [hdw, HS.out.2.1, mg_len0])); rw [decide_eq_true hz] at hn3; (have hn3p := of_decide_eq_true hn3); clear hb p0 p1 p2 p3)
    obtain ⟨xb, hxb⟩ : ∃ xb, xb = decide (0 < n2) := ⟨_, rfl⟩
    rw [← hxb]
    rw [HS.out.1, mg_len0] at hxb
    have e2 := HS.out.1
    have e3 := HS.out.2.1
    have hv2 := HS.out.2.2.1
    have hv3 := HS.out.2.2.2.1
    obtain ⟨lq, hlq⟩ : ∃ l, l = il (mg (X / Y)) := ⟨_, rfl⟩
    obtain ⟨lr, hlr⟩ : ∃ l, l = il (mg (X % Y)) := ⟨_, rfl⟩
    rw [← hlq] at e2 hv2
    rw [← hlr] at e3 hv3
    subst e2 e3
    have HV2 := Aside0.mk hv2
    have HV3 := Aside0.mk hv3
    have HXB := Aside0.mk hxb
    clear HS hv2 hv3 hxb hn3 hn3p
    obtain ⟨W2, hW2⟩ : ∃ W2, W2 = ((W1.alloc (.cells #[.slice A2 lq.length c2, .bool xb] 161)).alloc (.cells #[.slice A3 lr.length c3, .bool true] 161) : World) := ⟨_, rfl⟩
    have B8 : W2.heap[W1.heap.size]? = some (.cells #[.slice A2 lq.length c2, .bool xb] 161 (0, 0)) := by rw [hW2, heap_alloc_old _ _ (by simp), heap_alloc_new]
    have B9 : W2.heap[W1.heap.size + 1]? = some (.cells #[.slice A3 lr.length c3, .bool true] 161 (0, 0)) := by
      rw [hW2]
      have := heap_alloc_new (W1.alloc (.cells #[.slice A2 lq.length c2, .bool xb] 161)) (.cells #[.slice A3 lr.length c3, .bool true] 161)
      rwa [World.size_alloc] at this
    have hb2 : Below W1.heap.size W1 W2 := by rw [hW2]; exact ((Below.refl _ W1).alloc (Nat.le_refl _) _).alloc (by simp) _
    have HS2 := Aside0.mk (show W2.heap.size = W1.heap.size + 2 by rw [hW2]; simp)
    have hb2s := hb2.size
    rw [← hW2]
    clear hW2 G0 G1 g0 g1
    have P1 := hold_b HP.out.2.1 hb2
    have P2 := hold_b HP.out.2.2.1 hb2
    have P3 := hold_b HP.out.2.2.2.1 hb2
    have hsz1 : w.heap.size + 4 ≤ W1.heap.size := by have := HP.out.2.2.2.2.size; omega
    have far : ∀ (U : World) (b j i : Nat) (u : Value), b ≠ i → (U.setCell ⟨b, j, none⟩ u).heap[i]? = U.heap[i]? := fun U b j i u h => Below.heap_setCell U ⟨b, j, none⟩ u i (fun e => h e.symm)
    have hbU1 : Below W2.heap.size W2 (W2.drew.alloc (.cells #[.int .u64 1] 188)) := (below_drew (Below.refl _ W2)).alloc (Nat.le_refl _) _
    have hone : Kd.C (Kd.int .u64) (W2.drew.alloc (.cells #[.int .u64 1] 188)) (some ⟨W2.heap.size, 0, none⟩) ([1] : List Int).length [1] := one_reads _ _ (heap_alloc_new W2.drew _)
    obtain ⟨k1, hk1⟩ := (wplus_ev (X / Y) 1 xb true (by have := HX.out; have := dec_mono (Nat.div_le_self X Y); omega) (by rw [decDigits_one (show 1 < 10 by decide)]; decide)).rounds
    obtain ⟨k2, hk2⟩ := (wplus_ev (X % Y) Y true false (by have := HYD.out; have := dec_mono (Nat.le_of_lt (Nat.mod_lt X HY.out)); omega) (by have := HYD.out; omega)).rounds
    rw [mg_one, ← hlq] at hk1
    rw [← E1.out, ← hlr] at hk2
    obtain ⟨m1, hm1⟩ : ∃ l, l = il (mg (plusW (X / Y) xb 1 true).1) := ⟨_, rfl⟩
    obtain ⟨s1, hs1⟩ : ∃ l, l = (plusW (X / Y) xb 1 true).2 := ⟨_, rfl⟩
    obtain ⟨m2, hm2⟩ : ∃ l, l = il (mg (plusW (X % Y) true Y false).1) := ⟨_, rfl⟩
    obtain ⟨s2, hs2⟩ : ∃ l, l = (plusW (X % Y) true Y false).2 := ⟨_, rfl⟩
    rw [← hm1, ← hs1] at hk1
    rw [← hm2, ← hs2] at hk2
    have HM := Aside0.mk (And.intro hm1 (And.intro hs1 (And.intro hm2 hs2)))
    clear hm1 hs1 hm2 hs2 hlq hlr
    have HC1_ := Aside0.mk (Go.Proofs.YtcpaajecppplhaaGreatDoor.L.num_plus.calls k1 A2 c2 lq xb (some ⟨W2.heap.size, 0, none⟩) 1 [1] true m1 s1 (W2.drew.alloc (.cells #[.int .u64 1] 188)) (Kd.V_reads' (Kd.V_below HV2.out (hb2.trans (hbU1.mono hb2.size)))).2.2 (Kd.V_reads' HV2.out).2.1 hone (Nat.le_refl 1) hk1)
    have HK1 := Aside0.mk hk1
    have HK2 := Aside0.mk hk2
    clear hk1 hk2
    have HSU := Aside0.mk (show ∀ U, Below W2.heap.size W2 U → U.cell? ⟨W1.heap.size, 0, none⟩ = some (.slice A2 lq.length c2) ∧ U.cell? ⟨W1.heap.size, 1, none⟩ = some (.bool xb) ∧ U.cell? ⟨W1.heap.size + 1, 0, none⟩ = some (.slice A3 lr.length c3) ∧ U.cell? ⟨W1.heap.size + 1, 1, none⟩ = some (.bool true) ∧ U.cell? ⟨w.heap.size + 1, 0, none⟩ = some (.slice A1 l1.length c1) ∧ U.cell? ⟨w.heap.size + 1, 1, none⟩ = some (.bool false) from fun U hU =>
      ⟨Lib.cell_of_heap (hold_b B8 hU) 0, Lib.cell_of_heap (hold_b B8 hU) 1, Lib.cell_of_heap (hold_b B9 hU) 0, Lib.cell_of_heap (hold_b B9 hU) 1, Lib.cell_of_heap (hold_b P1 hU) 0, Lib.cell_of_heap (hold_b P1 hU) 1⟩)
    refine region_top (m := 9) (S := fun U => U.cell? ⟨W1.heap.size, 0, none⟩ = some (.slice A2 lq.length c2) ∧ U.cell? ⟨W1.heap.size, 1, none⟩ = some (.bool xb) ∧ U.cell? ⟨W1.heap.size + 1, 0, none⟩ = some (.slice A3 lr.length c3) ∧ U.cell? ⟨W1.heap.size + 1, 1, none⟩ = some (.bool true) ∧ U.cell? ⟨w.heap.size + 1, 0, none⟩ = some (.slice A1 l1.length c1) ∧ U.cell? ⟨w.heap.size + 1, 1, none⟩ = some (.bool false)) (ds := [7, 8]) #[false, false, false, false, false, false, false, false, false] mixed rfl rfl (HSU.out _ (below_drew (Below.refl _ _))) (fun hHeld => ?_)
    refine take_ (i := 0) (N := (some 49)) (v := ?_) (a' := ?_) #[true, false, false, false, false, false, false, false, false] rfl rfl (by kernel_rfl) (fun _ _ _ h => absurd h.1 (by intro e; cases e)) (Or.inl ⟨by rfl, ?_⟩) hHeld ?_ ?_
    rotate_left
    · intro w' hS
      obtain ⟨s0, s1, s2, s3, s4, s5⟩ := hS; go_simp; (try with_reducible rfl)
    rotate_left
    · simp only [Act.put, List.setIfInBounds_toArray, List.set_cons_zero, List.set_cons_succ]
      rfl
    refine take_ (i := 4) (N := (some 53)) (v := ?_) (a' := ?_) #[true, false, false, false, true, false, false, false, false] rfl rfl (by kernel_rfl) (fun _ _ _ h => absurd h.1 (by intro e; cases e)) (Or.inl ⟨by rfl, ?_⟩) hHeld ?_ ?_
    rotate_left
    · intro w' hS
      obtain ⟨s0, s1, s2, s3, s4, s5⟩ := hS; go_simp; (try with_reducible rfl)
    rotate_left
    · simp only [Act.put, List.setIfInBounds_toArray, List.set_cons_zero, List.set_cons_succ]
      rfl
    refine take_ (i := 5) (N := (some 54)) (v := ?_) (a' := ?_) #[true, false, false, false, true, true, false, false, false] rfl rfl (by kernel_rfl) (fun _ _ _ h => absurd h.1 (by intro e; cases e)) (Or.inl ⟨by rfl, ?_⟩) hHeld ?_ ?_
    rotate_left
    · intro w' hS
      obtain ⟨s0, s1, s2, s3, s4, s5⟩ := hS; go_simp; (try with_reducible rfl)
    rotate_left
    · simp only [Act.put, List.setIfInBounds_toArray, List.set_cons_zero, List.set_cons_succ]
      rfl
    refine one_ (i := 1) (N := (some 50)) #[true, true, false, false, true, true, false, false, false] rfl rfl (by kernel_rfl) (by decide) (fun K hK => ?_)
    rw [if_pos (by rfl)]
    unfold Oper.wp
    go_simp
    refine hK.out _ _ (HSU.out _ ((below_drew (Below.refl _ W2)).alloc (Nat.le_refl _) _)) (fun hHeld => ?_)
    clear hK K
    refine pure_ (i := 2) (N := (some 51)) (v := ?_) (a' := ?_) #[true, true, true, false, true, true, false, false, false] rfl rfl (by kernel_rfl) (fun _ _ _ h => absurd h.1 (by intro e; cases e)) (Or.inl ⟨by rfl, ?_⟩) ?_ ?_
    rotate_left
    · intro w'
      go_simp
      with_reducible rfl
    rotate_left
    · simp only [Act.put, List.setIfInBounds_toArray, List.set_cons_zero, List.set_cons_succ]
      rfl
    refine one_ (i := 3) (N := (some 52)) #[true, true, true, true, true, true, false, false, false] rfl rfl (by kernel_rfl) (by decide) (fun K hK => ?_)
    rw [if_pos (by rfl)]
    unfold Oper.wp
    go_simp
    refine HC1_.out.mono ?_
    rintro e U2 ⟨w1, rfl, hV1, hbU2⟩
    obtain ⟨A4, c4, rfl⟩ := Kd.V_slice hV1
    have hb02 : Below W2.heap.size W2 U2 := hbU1.trans (hbU2.mono hbU1.size)
    refine hK.out _ _ (HSU.out _ hb02) (fun hHeld => ?_)
    clear hK K
    refine one_ (i := 6) (N := (some 55)) #[true, true, true, true, true, true, true, false, false] rfl rfl (by kernel_rfl) (by decide) (fun K hK => ?_)
    rw [if_pos (by rfl)]
    unfold Oper.wp
    go_simp
    refine (Go.Proofs.YtcpaajecppplhaaGreatDoor.L.num_plus.calls k2 _ _ lr true _ _ l1 false m2 s2 _ (Kd.V_reads' (Kd.V_below HV3.out (hb2.trans (hb02.mono hb2.size)))).2.2 (Kd.V_reads' HV3.out).2.1 (Kd.C_below HR1.out (hBV.trans ((HP.out.2.2.2.2.mono (by omega)).trans ((hb2.mono (by omega)).trans (hb02.mono (by omega)))))) HC1.out HK2.out).mono ?_
    rintro e U3 ⟨w2, rfl, hV2, hbU3⟩
    obtain ⟨A5, c5, rfl⟩ := Kd.V_slice hV2
    have hb03 : Below W2.heap.size W2 U3 := hb02.trans (hbU3.mono hb02.size)
    have Q8 := hold_b B8 hb03
    have Q9 := hold_b B9 hb03
    have i80 := Lib.cell_of_heap Q8 0
    have i81 := Lib.cell_of_heap Q8 1
    have z8 : ∀ j, U3.frozen? ⟨W1.heap.size, j, none⟩ = false := fun j => by simp [World.frozen?, Q8]
    have Q9' : ((U3.setCell ⟨W1.heap.size, 0, none⟩ (.slice A4 m1.length c4)).setCell ⟨W1.heap.size, 1, none⟩ (.bool s1)).heap[W1.heap.size + 1]? = _ := ((far _ _ _ _ _ (by omega)).trans (far _ _ _ _ _ (by omega))).trans Q9
    have i90 := Lib.cell_of_heap Q9' 0
    have i91 := Lib.cell_of_heap Q9' 1
    have z9 : ∀ j, ((U3.setCell ⟨W1.heap.size, 0, none⟩ (.slice A4 m1.length c4)).setCell ⟨W1.heap.size, 1, none⟩ (.bool s1)).frozen? ⟨W1.heap.size + 1, j, none⟩ = false := fun j => by simp [World.frozen?, Q9']
    refine hK.out _ _ (HSU.out _ hb03) (fun hHeld => ?_)
    clear hK K
    refine last_ (i := 7) (N := none) #[true, true, true, true, true, true, true, true, false] rfl rfl (by kernel_rfl) (by decide) (fun K hK => ?_)
    rw [if_pos (by rfl)]
    unfold Oper.wp
    go_simp
    refine hK.out _ _ ?_
    clear hK K
    refine last_ (i := 8) (N := none) #[true, true, true, true, true, true, true, true, true] rfl rfl (by kernel_rfl) (by decide) (fun K hK => ?_)
    rw [if_pos (by rfl)]
    unfold Oper.wp
    go_simp
    refine hK.out _ _ ?_
    clear hK K
    refine done_ (by kernel_rfl) ?_
    refine ⟨rfl, ?_⟩
    go_wp2
    obtain ⟨W3, hW3⟩ : ∃ W3, W3 = ((((U3.setCell ⟨W1.heap.size, 0, none⟩ (.slice A4 m1.length c4)).setCell ⟨W1.heap.size, 1, none⟩ (.bool s1)).setCell ⟨W1.heap.size + 1, 0, none⟩ (.slice A5 m2.length c5)).setCell ⟨W1.heap.size + 1, 1, none⟩ (.bool s2) : World) := ⟨_, rfl⟩
    have hU2s : W2.heap.size ≤ U2.heap.size := hb02.size
    have C8 : W3.heap[W1.heap.size]? = some (.cells #[.slice A4 m1.length c4, .bool s1] 161 (0, 0)) := by
      rw [hW3]
      exact ((far _ _ _ _ _ (by omega)).trans (far _ _ _ _ _ (by omega))).trans (blk_put (blk_put Q8 0 _ rfl) 1 _ rfl)
    have C9 : W3.heap[W1.heap.size + 1]? = some (.cells #[.slice A5 m2.length c5, .bool s2] 161 (0, 0)) := by
      rw [hW3]
      exact blk_put (blk_put Q9' 0 _ rfl) 1 _ rfl
    have keep : ∀ i, i ≠ W1.heap.size → i ≠ W1.heap.size + 1 → W3.heap[i]? = U3.heap[i]? := fun i h1 h2 => by
      rw [hW3]
      exact ((far _ _ _ _ _ (fun e => h2 e.symm)).trans (far _ _ _ _ _ (fun e => h2 e.symm))).trans ((far _ _ _ _ _ (fun e => h1 e.symm)).trans (far _ _ _ _ _ (fun e => h1 e.symm)))
    have C2 := (keep (w.heap.size + 1 + 1) (by omega) (by omega)).trans (hold_b P2 hb03)
    have C3 := (keep (w.heap.size + 1 + 1 + 1) (by omega) (by omega)).trans (hold_b P3 hb03)
    have hvq : Kd.V (Kd.int .u64) 188 W3 w.heap.size (fun k_ => W1.heap.size + 2 ≤ k_) (.slice A4 m1.length c4) m1 := by
      have := HS2.out
      have := hbU1.size
      rw [hW3]
      exact Kd.V_far (Kd.V_far (Kd.V_far (Kd.V_far (Kd.V_mono (Kd.V_below hV1 hbU3) (fun k hk => by omega)) (fun k hk => by show _ ≠ _; simp only; omega) _) (fun k hk => by show _ ≠ _; simp only; omega) _) (fun k hk => by show _ ≠ _; simp only; omega) _) (fun k hk => by show _ ≠ _; simp only; omega) _
    have hvr : Kd.V (Kd.int .u64) 188 W3 w.heap.size (fun k_ => W1.heap.size + 2 ≤ k_) (.slice A5 m2.length c5) m2 := by
      have := HS2.out
      rw [hW3]
      exact Kd.V_far (Kd.V_far (Kd.V_far (Kd.V_far (Kd.V_mono hV2 (fun k hk => by omega)) (fun k hk => by show _ ≠ _; simp only; omega) _) (fun k hk => by show _ ≠ _; simp only; omega) _) (fun k hk => by show _ ≠ _; simp only; omega) _) (fun k hk => by show _ ≠ _; simp only; omega) _
    have hb3 : Below w.heap.size w W3 := by
      rw [hW3]
      exact (((((hBV.trans (HP.out.2.2.2.2.mono (by omega))).trans (hb2.mono (by omega))).trans (hb03.mono (by omega))).setCell (by show _ ≤ _; simp only; omega) _).setCell (by show _ ≤ _; simp only; omega) _).setCell (by show _ ≤ _; simp only; omega) _ |>.setCell (by show _ ≤ _; simp only; omega) _
    rw [← hW3]
    have HVQ := Aside0.mk hvq
    have HVR := Aside0.mk hvr
    have HB3 := Aside0.mk hb3
    clear hW3 hvq hvr hb3 far keep Q8 Q9 Q9' i80 i81 i90 i91 z8 z9 hV1 hV2 P1 P2 P3 B8 B9 hU2s hb03 hbU3 hb02 hbU2 hbU1 hone hb2s
    have c80 : W3.cell? ⟨W1.heap.size, 0, none⟩ = some (.slice A4 m1.length c4) := Lib.cell_of_heap C8 0
    have c81 : W3.cell? ⟨W1.heap.size, 1, none⟩ = some (.bool s1) := Lib.cell_of_heap C8 1
    have c90 : W3.cell? ⟨(W1.heap.size + 1), 0, none⟩ = some (.slice A5 m2.length c5) := Lib.cell_of_heap C9 0
    have c91 : W3.cell? ⟨(W1.heap.size + 1), 1, none⟩ = some (.bool s2) := Lib.cell_of_heap C9 1
    have far : ∀ (U : World) (b j i : Nat) (u : Value), b ≠ i → (U.setCell ⟨b, j, none⟩ u).heap[i]? = U.heap[i]? := fun U b j i u h => Below.heap_setCell U ⟨b, j, none⟩ u i (fun e => h e.symm)
    have K4 : ∀ i, i ≠ w.heap.size + 1 + 1 → ((W3.setCell ⟨w.heap.size + 1 + 1, 0, none⟩ (.slice A4 m1.length c4)).setCell ⟨w.heap.size + 1 + 1, 1, none⟩ (.bool s1)).heap[i]? = W3.heap[i]? := fun i h => (far _ _ _ _ _ (fun e => h e.symm)).trans (far _ _ _ _ _ (fun e => h e.symm))
    have F8 := (K4 (W1.heap.size) (by omega)).trans C8
    have F9 := (K4 ((W1.heap.size + 1)) (by omega)).trans C9
    have F3 := (K4 (w.heap.size + 1 + 1 + 1) (by omega)).trans C3
    have e80 := Lib.cell_of_heap F8 0
    have e81 := Lib.cell_of_heap F8 1
    have e90 := Lib.cell_of_heap F9 0
    have e91 := Lib.cell_of_heap F9 1
    have e30 := Lib.cell_of_heap F3 0
    have e31 := Lib.cell_of_heap F3 1
    have d0 := Lib.cell_of_heap C2 0
    have d1 := Lib.cell_of_heap C2 1
    have fz2 : ∀ j, W3.frozen? ⟨w.heap.size + 1 + 1, j, none⟩ = false := fun j => by simp [World.frozen?, C2]
    have fz3 : ∀ j, ((W3.setCell ⟨w.heap.size + 1 + 1, 0, none⟩ (.slice A4 m1.length c4)).setCell ⟨w.heap.size + 1 + 1, 1, none⟩ (.bool s1)).frozen? ⟨w.heap.size + 1 + 1 + 1, j, none⟩ = false := fun j => by simp [World.frozen?, F3]
    refine region_top (m := 4) (S := fun w' => w'.cell? ⟨W1.heap.size, 0, none⟩ = some (.slice A4 m1.length c4) ∧ w'.cell? ⟨W1.heap.size, 1, none⟩ = some (.bool s1) ∧ w'.cell? ⟨(W1.heap.size + 1), 0, none⟩ = some (.slice A5 m2.length c5) ∧ w'.cell? ⟨(W1.heap.size + 1), 1, none⟩ = some (.bool s2)) (ds := [3]) #[false, false, false, false] mixed rfl rfl ⟨c80, c81, c90, c91⟩ (fun hHeld => ?_)
    refine take_ (i := 0) (N := (some 56)) (v := ?_) (a' := ?_) #[true, false, false, false] rfl rfl (by kernel_rfl) (fun _ _ _ h => absurd h.1 (by intro e; cases e)) (Or.inl ⟨by rfl, ?_⟩) hHeld ?_ ?_
    rotate_left
    · intro w' hS
      obtain ⟨s0, s1, s2, s3⟩ := hS; go_simp; (try with_reducible rfl)
    rotate_left
    · simp only [Act.put, List.setIfInBounds_toArray, List.set_cons_zero, List.set_cons_succ]
      rfl
    refine take_ (i := 1) (N := (some 57)) (v := ?_) (a' := ?_) #[true, true, false, false] rfl rfl (by kernel_rfl) (fun _ _ _ h => absurd h.1 (by intro e; cases e)) (Or.inl ⟨by rfl, ?_⟩) hHeld ?_ ?_
    rotate_left
    · intro w' hS
      obtain ⟨s0, s1, s2, s3⟩ := hS; go_simp; (try with_reducible rfl)
    rotate_left
    · simp only [Act.put, List.setIfInBounds_toArray, List.set_cons_zero, List.set_cons_succ]
      rfl
    refine one_ (i := 2) (N := none) #[true, true, true, false] rfl rfl (by kernel_rfl) (by decide) (fun K hK => ?_)
    rw [if_pos (by rfl)]
    unfold Oper.wp
    go_simp
    refine hK.out _ _ ⟨by simpa using e80, by simpa using e81, by simpa using e90, by simpa using e91⟩ (fun hHeld => ?_)
    clear hK K
    refine last_ (i := 3) (N := none) #[true, true, true, true] rfl rfl (by kernel_rfl) (by decide) (fun K hK => ?_)
    rw [if_pos (by rfl)]
    unfold Oper.wp
    go_simp
    refine hK.out _ _ ?_
    clear hK K
    refine done_ (by kernel_rfl) ?_
    refine ⟨rfl, ?_⟩
    go_wp2
    have R4 := blk_put (blk_put C2 0 (.slice A4 m1.length c4) rfl) 1 (.bool s1) rfl
    have R5 := blk_put (blk_put F3 0 (.slice A5 m2.length c5) rfl) 1 (.bool s2) rfl
    have R4' : ((((W3.setCell ⟨w.heap.size + 1 + 1, 0, none⟩ (.slice A4 m1.length c4)).setCell ⟨w.heap.size + 1 + 1, 1, none⟩ (.bool s1)).setCell ⟨w.heap.size + 1 + 1 + 1, 0, none⟩ (.slice A5 m2.length c5)).setCell ⟨w.heap.size + 1 + 1 + 1, 1, none⟩ (.bool s2)).heap[w.heap.size + 1 + 1]? = _ := ((far _ _ _ _ _ (by omega)).trans (far _ _ _ _ _ (by omega))).trans R4
    have r40 := cell_drew0 R4'
    have r41 := cell_drew1 R4'
    have r50 := cell_drew0 R5
    have r51 := cell_drew1 R5
    refine bodyPost_ret (results_whole2 rfl _ _ (w.heap.size + 1 + 1) (w.heap.size + 1 + 1 + 1) (.slice A4 m1.length c4) (.slice A5 m2.length c5) s1 s2 rfl rfl rfl rfl r40 r41 r50 r51) rfl ?_
    refine ⟨.slice A4 m1.length c4, .slice A5 m2.length c5, ?_, ?_, ?_, ?_⟩
    · rw [HDV.out, HM.out.2.1, HM.out.2.2.2, HXB.out]
      first | rfl | (rw [decide_eq_true hz]; rfl)
    · rw [HDV.out]
      have e : il (mg (plusW (X / Y) ((true != false) && decide (0 < X / Y)) 1 true).1) = m1 := by rw [HM.out.1, HXB.out]; rfl
      show Kd.V (Kd.int .u64) 188 _ _ _ _ (il (mg (plusW (X / Y) ((true != false) && decide (0 < X / Y)) 1 true).1))
      rw [e]
      exact Kd.V_mono (Kd.V_drew (Kd.V_far (Kd.V_far (Kd.V_far (Kd.V_far HVQ.out (fun k hk => by show _ ≠ _; simp only; omega) _) (fun k hk => by show _ ≠ _; simp only; omega) _) (fun k hk => by show _ ≠ _; simp only; omega) _) (fun k hk => by show _ ≠ _; simp only; omega) _)) (fun k hk => by omega)
    · rw [HDV.out]
      have e : il (mg (plusW (X % Y) (true && decide (0 < X % Y)) Y false).1) = m2 := by
        rw [HM.out.2.2.1, decide_eq_true hz]
        rfl
      show Kd.V (Kd.int .u64) 188 _ _ _ _ (il (mg (plusW (X % Y) (true && decide (0 < X % Y)) Y false).1))
      rw [e]
      exact Kd.V_mono (Kd.V_drew (Kd.V_far (Kd.V_far (Kd.V_far (Kd.V_far HVR.out (fun k hk => by show _ ≠ _; simp only; omega) _) (fun k hk => by show _ ≠ _; simp only; omega) _) (fun k hk => by show _ ≠ _; simp only; omega) _) (fun k hk => by show _ ≠ _; simp only; omega) _)) (fun k hk => by omega)
    · exact below_drew (((HB3.out.setCell (by show _ ≤ _; simp only; omega) _).setCell (by show _ ≤ _; simp only; omega) _).setCell (by show _ ≤ _; simp only; omega) _ |>.setCell (by show _ ≤ _; simp only; omega) _)
  · exact absurd rfl hadj.2
end Go.Proofs.YtcpaajecppplhaaGreatDoor.Hd
end
section
/- num.divided, and what num.Div and num.Mod hand to num.of, at all numbers of 900 figures at most. -/
namespace Go.Proofs.YtcpaajecppplhaaGreatDoor.Hd
open Go.RowKit Go.Proofs.YtcpaajecppplhaaGreatDoorW.PrintWords Go.Proofs.YtcpaajecppplhaaGreatDoorW.PrintLast Go.Proofs.YtcpaajecppplhaaGreatDoorW.PrintMore Go.Proofs.YtcpaajecppplhaaGreatDoor.B Go.Lib Go.Shelf Go.Proofs.YtcpaajecppplhaaGreatDoor.Nm
set_option linter.unusedVariables false
set_option linter.unusedSimpArgs false
theorem divided_walk (X Y : Nat) (hY : 0 < Y) (a b : Bool) (A0 A1 : Option Addr) (c0 c1 : Nat) (l0 l1 : List Int) (w : World) (h0 : l0 = il (mg X)) (h1 : l1 = il (mg Y)) (hr0 : Kd.C (Kd.int .u64) w A0 l0.length l0) (hr1 : Kd.C (Kd.int .u64) w A1 l1.length l1) (hc1 : l1.length ≤ c1) (hX : (decDigits X).length ≤ 900) (hYd : (decDigits Y).length ≤ 900) :
    Calls Tryz.prog 164 #[.agg #[.slice A0 l0.length c0, .bool a], .agg #[.slice A1 l1.length c1, .bool b]] w fun e w' => ∃ v1 v2, e = .returned (.tuple #[.agg #[v1, .bool (divW X a Y b).1.2], .agg #[v2, .bool (divW X a Y b).2.2]]) ∧
      Kd.V (Kd.int .u64) 188 w' w.heap.size (fun k_ => w.heap.size ≤ k_) v1 (il (mg (divW X a Y b).1.1)) ∧ Kd.V (Kd.int .u64) 188 w' w.heap.size (fun k_ => w.heap.size ≤ k_) v2 (il (mg (divW X a Y b).2.1)) ∧ Below w.heap.size w w' := by
  by_cases h : 0 < X % Y ∧ a ≠ b
  · exact divided_adj X Y hY a b A0 A1 c0 c1 l0 l1 w h0 h1 hr0 hr1 hc1 hX hYd h
  · exact divided_plain X Y hY a b A0 A1 c0 c1 l0 l1 w h0 h1 hr0 hr1 hc1 hX hYd h
def nn (l : List Int) : Nat := mv (l.map Int.toNat)
theorem nn_il (m : List Nat) : nn (il m) = mv m := by
  unfold nn il
  congr 1
  rw [List.map_map]
  conv => rhs; rw [← List.map_id m]
  rfl
def okDiv (l0 l1 : List Int) : Prop := l0 = il (mg (nn l0)) ∧ l1 = il (mg (nn l1)) ∧ 0 < nn l1 ∧ (decDigits (nn l0)).length ≤ 900 ∧ (decDigits (nn l1)).length ≤ 900
instance (l0 l1 : List Int) : Decidable (okDiv l0 l1) := by unfold okDiv; exact inferInstance
def Div1.f (l0 : List Int) (a : Bool) (l1 : List Int) (b : Bool) : Option (List Int × Bool) := if okDiv l0 l1 then some (il (mg (divW (nn l0) a (nn l1) b).1.1), (divW (nn l0) a (nn l1) b).1.2) else none
def Mod1.f (l0 : List Int) (a : Bool) (l1 : List Int) (b : Bool) : Option (List Int × Bool) := if okDiv l0 l1 then some (il (mg (divW (nn l0) a (nn l1) b).2.1), (divW (nn l0) a (nn l1) b).2.2) else none
theorem div1_f (x y : Nat) (a b : Bool) (hy : 0 < y) (hx : (decDigits x).length ≤ 900) (hyd : (decDigits y).length ≤ 900) : Div1.f (il (mg x)) a (il (mg y)) b = some (il (mg (divW x a y b).1.1), (divW x a y b).1.2) := by
  have ex : nn (il (mg x)) = x := by rw [nn_il, mv_mg]
  have ey : nn (il (mg y)) = y := by rw [nn_il, mv_mg]
  have hok : okDiv (il (mg x)) (il (mg y)) := by
    unfold okDiv
    rw [ex, ey]
    exact ⟨rfl, rfl, hy, hx, hyd⟩
  unfold Div1.f
  rw [if_pos hok, ex, ey]
theorem mod1_f (x y : Nat) (a b : Bool) (hy : 0 < y) (hx : (decDigits x).length ≤ 900) (hyd : (decDigits y).length ≤ 900) : Mod1.f (il (mg x)) a (il (mg y)) b = some (il (mg (divW x a y b).2.1), (divW x a y b).2.2) := by
  have ex : nn (il (mg x)) = x := by rw [nn_il, mv_mg]
  have ey : nn (il (mg y)) = y := by rw [nn_il, mv_mg]
  have hok : okDiv (il (mg x)) (il (mg y)) := by
    unfold okDiv
    rw [ex, ey]
    exact ⟨rfl, rfl, hy, hx, hyd⟩
  unfold Mod1.f
  rw [if_pos hok, ex, ey]
set_option maxHeartbeats 2000000 in
set_option maxRecDepth 100000 in
theorem Div1.calls (A0_0 : Option Addr) (c0_0 : Nat) (l0_0 : List Int) (a0_1 : Bool) (A1_0 : Option Addr) (c1_0 : Nat) (l1_0 : List Int) (a1_1 : Bool) (r1 : List Int) (r2 : Bool) (w : World) (hr0_0 : Kd.C (Kd.int .u64) w A0_0 l0_0.length l0_0) (hc0_0 : l0_0.length ≤ c0_0) (hr1_0 : Kd.C (Kd.int .u64) w A1_0 l1_0.length l1_0) (hc1_0 : l1_0.length ≤ c1_0) (h : Div1.f l0_0 a0_1 l1_0 a1_1 = some (r1, r2)) :
    Calls Tryz.prog 163 #[.agg #[.slice A0_0 l0_0.length c0_0, .bool a0_1], .agg #[.slice A1_0 l1_0.length c1_0, .bool a1_1]] w fun e w' => ∃ v0_ : Value, e = .returned (.agg #[v0_, .bool r2]) ∧ Kd.V (Kd.int .u64) 188 w' w.heap.size (fun k_ => (w.heap.size ≤ k_)) v0_ r1 ∧ Below w.heap.size w w' := by
  unfold Div1.f at h
  split at h
  · rename_i hok
    obtain ⟨o1, o2, o3, o4, o5⟩ := hok
    simp only [Option.some.injEq, Prod.mk.injEq] at h
    obtain ⟨e1, e2⟩ := h
    obtain ⟨V, hV⟩ : ∃ V, V = (((w.alloc (.cells #[.slice A0_0 l0_0.length c0_0, .bool a0_1] 161)).alloc (.cells #[.slice A1_0 l1_0.length c1_0, .bool a1_1] 161)).alloc (.cells #[.slice none 0 0, .bool false] 161) : World) := ⟨_, rfl⟩
    have hBV : Below w.heap.size w V := by
      rw [hV]
      exact (((Below.refl _ w).alloc (Nat.le_refl _) _).alloc (by simp) _).alloc (by simp; omega) _
    have HVS := Aside0.mk (show V.heap.size = w.heap.size + 3 by rw [hV]; simp)
    have v2 : V.heap[w.heap.size + 1 + 1]? = some (.cells #[.slice none 0 0, .bool false] 161 (0, 0)) := by
      rw [hV]
      have := heap_alloc_new ((w.alloc (.cells #[.slice A0_0 l0_0.length c0_0, .bool a0_1] 161)).alloc (.cells #[.slice A1_0 l1_0.length c1_0, .bool a1_1] 161)) (.cells #[.slice none 0 0, .bool false] 161)
      rwa [World.size_alloc, World.size_alloc] at this
    have HQ := Aside0.mk ((divided_walk _ _ o3 a0_1 a1_1 A0_0 A1_0 c0_0 c1_0 l0_0 l1_0 V o1 o2 (Kd.C_below hr0_0 hBV) (Kd.C_below hr1_0 hBV) hc1_0 o4 o5).mono (R' := fun e W1 => ∃ A2 c2 A3 n3 c3 s2 s3, e = .returned (.tuple #[.agg #[.slice A2 r1.length c2, .bool s2], .agg #[.slice A3 n3 c3, .bool s3]]) ∧ Aside0 (s2 = r2 ∧ Kd.V (Kd.int .u64) 188 W1 w.heap.size (fun k_ => w.heap.size + 3 ≤ k_) (.slice A2 r1.length c2) r1 ∧ Below V.heap.size V W1)) (by
      rintro e W1 ⟨qv, rv, rfl, hq, hr, hb⟩
      obtain ⟨A2, c2, rfl⟩ := Kd.V_slice hq
      obtain ⟨A3, c3, rfl⟩ := Kd.V_slice hr
      have := HVS.out
      subst e1
      exact ⟨A2, c2, A3, _, c3, _, _, rfl, ⟨e2, Kd.V_mono hq (fun k hk => by omega), hb⟩⟩))
    rw [hV] at HQ
    have hu := Tryz.underlying161
    clear e1 e2 o1 o2 o3 o4 o5 hr0_0 hr1_0 hc0_0 hc1_0
    go_enter Tryz.func163, Tryz.ntmps163
    go_wp2_with (go_at_call 164; refine HQ.out.mono ?_; rintro e W1 ⟨A2, c2, A3, n3, c3, s2, s3, rfl, HS⟩; have hb := HS.out.2.2; rw [← hV] at hb; have p2 := hold_b v2 hb; have HP := Aside0.mk (And.intro p2 hb); have G0 : ∀ o1 o2, ((W1.alloc o1).alloc o2).cell? ⟨w.heap.size + 1 + 1, 0, none⟩ = some (.slice none 0 0) := (fun o1 o2 => ((((Below.refl _ W1).alloc (Nat.le_refl _) o1).alloc (by simp) o2).cell (p := ⟨w.heap.size + 1 + 1, 0, none⟩) (Array.getElem?_eq_some_iff.1 p2).1).trans (Lib.cell_of_heap p2 0)); have G1 : ∀ o1 o2, ((W1.alloc o1).alloc o2).cell? ⟨w.heap.size + 1 + 1, 1, none⟩ = some (.bool false) := (fun o1 o2 => ((((Below.refl _ W1).alloc (Nat.le_refl _) o1).alloc (by simp) o2).cell (p := ⟨w.heap.size + 1 + 1, 1, none⟩) (Array.getElem?_eq_some_iff.1 p2).1).trans (Lib.cell_of_heap p2 1)); have G2 : ∀ o1 o2 j, ((W1.alloc o1).alloc o2).frozen? ⟨w.heap.size + 1 + 1, j, none⟩ = false := (fun o1 o2 j => by simp [World.frozen?, hold_b p2 (((Below.refl _ W1).alloc (Nat.le_refl _) o1).alloc (by simp) o2)]); clear hb p2)
    have hbU : Below W1.heap.size W1 ((W1.alloc (.cells #[.slice A2 r1.length c2, .bool s2] 161)).alloc (.cells #[.slice A3 n3 c3, .bool s3] 161)) := ((Below.refl _ W1).alloc (Nat.le_refl _) _).alloc (by simp) _
    have P2 := hold_b HP.out.1 hbU
    have hsz := HP.out.2.size
    have hVs := HVS.out
    have R4 := blk_put (blk_put P2 0 (.slice A2 r1.length c2) rfl) 1 (.bool s2) rfl
    have r40 := Lib.cell_of_heap R4 0
    have r41 := Lib.cell_of_heap R4 1
    refine bodyPost_ret (results_whole1 rfl _ _ (w.heap.size + 1 + 1) (.slice A2 r1.length c2) s2 rfl rfl r40 r41) rfl ?_
    refine ⟨_, by rw [HS.out.1], ?_, ?_⟩
    · exact Kd.V_mono (Kd.V_far (Kd.V_far (Kd.V_below HS.out.2.1 hbU) (fun k hk => by show _ ≠ _; simp only; omega) _) (fun k hk => by show _ ≠ _; simp only; omega) _) (fun k hk => by omega)
    · exact ((((hBV.trans (HP.out.2.mono (by omega))).trans (hbU.mono (by omega))).setCell (by show _ ≤ _; simp only; omega) _).setCell (by show _ ≤ _; simp only; omega) _)
  · cases h
set_option maxHeartbeats 2000000 in
set_option maxRecDepth 100000 in
theorem Mod1.calls (A0_0 : Option Addr) (c0_0 : Nat) (l0_0 : List Int) (a0_1 : Bool) (A1_0 : Option Addr) (c1_0 : Nat) (l1_0 : List Int) (a1_1 : Bool) (r1 : List Int) (r2 : Bool) (w : World) (hr0_0 : Kd.C (Kd.int .u64) w A0_0 l0_0.length l0_0) (hc0_0 : l0_0.length ≤ c0_0) (hr1_0 : Kd.C (Kd.int .u64) w A1_0 l1_0.length l1_0) (hc1_0 : l1_0.length ≤ c1_0) (h : Mod1.f l0_0 a0_1 l1_0 a1_1 = some (r1, r2)) :
    Calls Tryz.prog 165 #[.agg #[.slice A0_0 l0_0.length c0_0, .bool a0_1], .agg #[.slice A1_0 l1_0.length c1_0, .bool a1_1]] w fun e w' => ∃ v0_ : Value, e = .returned (.agg #[v0_, .bool r2]) ∧ Kd.V (Kd.int .u64) 188 w' w.heap.size (fun k_ => (w.heap.size ≤ k_)) v0_ r1 ∧ Below w.heap.size w w' := by
  unfold Mod1.f at h
  split at h
  · rename_i hok
    obtain ⟨o1, o2, o3, o4, o5⟩ := hok
    simp only [Option.some.injEq, Prod.mk.injEq] at h
    obtain ⟨e1, e2⟩ := h
    obtain ⟨V, hV⟩ : ∃ V, V = (((w.alloc (.cells #[.slice A0_0 l0_0.length c0_0, .bool a0_1] 161)).alloc (.cells #[.slice A1_0 l1_0.length c1_0, .bool a1_1] 161)).alloc (.cells #[.slice none 0 0, .bool false] 161) : World) := ⟨_, rfl⟩
    have hBV : Below w.heap.size w V := by
      rw [hV]
      exact (((Below.refl _ w).alloc (Nat.le_refl _) _).alloc (by simp) _).alloc (by simp; omega) _
    have HVS := Aside0.mk (show V.heap.size = w.heap.size + 3 by rw [hV]; simp)
    have v2 : V.heap[w.heap.size + 1 + 1]? = some (.cells #[.slice none 0 0, .bool false] 161 (0, 0)) := by
      rw [hV]
      have := heap_alloc_new ((w.alloc (.cells #[.slice A0_0 l0_0.length c0_0, .bool a0_1] 161)).alloc (.cells #[.slice A1_0 l1_0.length c1_0, .bool a1_1] 161)) (.cells #[.slice none 0 0, .bool false] 161)
      rwa [World.size_alloc, World.size_alloc] at this
    have HQ := Aside0.mk ((divided_walk _ _ o3 a0_1 a1_1 A0_0 A1_0 c0_0 c1_0 l0_0 l1_0 V o1 o2 (Kd.C_below hr0_0 hBV) (Kd.C_below hr1_0 hBV) hc1_0 o4 o5).mono (R' := fun e W1 => ∃ A2 c2 A3 n3 c3 s2 s3, e = .returned (.tuple #[.agg #[.slice A2 n3 c2, .bool s2], .agg #[.slice A3 r1.length c3, .bool s3]]) ∧ Aside0 (s3 = r2 ∧ Kd.V (Kd.int .u64) 188 W1 w.heap.size (fun k_ => w.heap.size + 3 ≤ k_) (.slice A3 r1.length c3) r1 ∧ Below V.heap.size V W1)) (by
      rintro e W1 ⟨qv, rv, rfl, hq, hr, hb⟩
      obtain ⟨A2, c2, rfl⟩ := Kd.V_slice hq
      obtain ⟨A3, c3, rfl⟩ := Kd.V_slice hr
      have := HVS.out
      subst e1
      exact ⟨A2, c2, A3, _, c3, _, _, rfl, ⟨e2, Kd.V_mono hr (fun k hk => by omega), hb⟩⟩))
    rw [hV] at HQ
    have hu := Tryz.underlying161
    clear e1 e2 o1 o2 o3 o4 o5 hr0_0 hr1_0 hc0_0 hc1_0
    go_enter Tryz.func165, Tryz.ntmps165
    go_wp2_with (go_at_call 164; refine HQ.out.mono ?_; rintro e W1 ⟨A2, c2, A3, n3, c3, s2, s3, rfl, HS⟩; have hb := HS.out.2.2; rw [← hV] at hb; have p2 := hold_b v2 hb; have HP := Aside0.mk (And.intro p2 hb); have G0 : ∀ o1 o2, ((W1.alloc o1).alloc o2).cell? ⟨w.heap.size + 1 + 1, 0, none⟩ = some (.slice none 0 0) := (fun o1 o2 => ((((Below.refl _ W1).alloc (Nat.le_refl _) o1).alloc (by simp) o2).cell (p := ⟨w.heap.size + 1 + 1, 0, none⟩) (Array.getElem?_eq_some_iff.1 p2).1).trans (Lib.cell_of_heap p2 0)); have G1 : ∀ o1 o2, ((W1.alloc o1).alloc o2).cell? ⟨w.heap.size + 1 + 1, 1, none⟩ = some (.bool false) := (fun o1 o2 => ((((Below.refl _ W1).alloc (Nat.le_refl _) o1).alloc (by simp) o2).cell (p := ⟨w.heap.size + 1 + 1, 1, none⟩) (Array.getElem?_eq_some_iff.1 p2).1).trans (Lib.cell_of_heap p2 1)); have G2 : ∀ o1 o2 j, ((W1.alloc o1).alloc o2).frozen? ⟨w.heap.size + 1 + 1, j, none⟩ = false := (fun o1 o2 j => by simp [World.frozen?, hold_b p2 (((Below.refl _ W1).alloc (Nat.le_refl _) o1).alloc (by simp) o2)]); clear hb p2)
    have hbU : Below W1.heap.size W1 ((W1.alloc (.cells #[.slice A2 n3 c2, .bool s2] 161)).alloc (.cells #[.slice A3 r1.length c3, .bool s3] 161)) := ((Below.refl _ W1).alloc (Nat.le_refl _) _).alloc (by simp) _
    have P2 := hold_b HP.out.1 hbU
    have hsz := HP.out.2.size
    have hVs := HVS.out
    have R4 := blk_put (blk_put P2 0 (.slice A3 r1.length c3) rfl) 1 (.bool s3) rfl
    have r40 := Lib.cell_of_heap R4 0
    have r41 := Lib.cell_of_heap R4 1
    refine bodyPost_ret (results_whole1 rfl _ _ (w.heap.size + 1 + 1) (.slice A3 r1.length c3) s3 rfl rfl r40 r41) rfl ?_
    refine ⟨_, by rw [HS.out.1], ?_, ?_⟩
    · exact Kd.V_mono (Kd.V_far (Kd.V_far (Kd.V_below HS.out.2.1 hbU) (fun k hk => by show _ ≠ _; simp only; omega) _) (fun k hk => by show _ ≠ _; simp only; omega) _) (fun k hk => by omega)
    · exact ((((hBV.trans (HP.out.2.mono (by omega))).trans (hbU.mono (by omega))).setCell (by show _ ≤ _; simp only; omega) _).setCell (by show _ ≤ _; simp only; omega) _)
  · cases h
end Go.Proofs.YtcpaajecppplhaaGreatDoor.Hd
end
section
namespace Go.Proofs.YtcpaajecppplhaaGreatDoor.M
open Go.RowKit Go.Proofs.YtcpaajecppplhaaGreatDoorW.PrintWords Go.Proofs.YtcpaajecppplhaaGreatDoorW.PrintLast Go.Proofs.YtcpaajecppplhaaGreatDoorW.PrintMore Go.Proofs.YtcpaajecppplhaaGreatDoor.B Go.Proofs.YtcpaajecppplhaaGreatDoor.K Go.Proofs.YtcpaajecppplhaaGreatDoor.L
attribute [local go_sem] max2_int min2_int max_two min_two max_three min_three max_four min_four
set_option linter.unusedVariables false
set_option linter.unusedSimpArgs false
/-! ### num_of_Div1: function 308 -/
def num_of_Div1.j0 : Nat → ByteArray → ByteArray → Bool → Option (ByteArray × Int)
  | 0, _, _, _ => none
  | k + 1, x0, x1, x15 => if x15 = true then (some ((⟨#[]⟩ : ByteArray), 1)) else ((Go.Proofs.YtcpaajecppplhaaGreatDoor.K.num_read.f k x0).bind fun bt103 => ((Go.Proofs.YtcpaajecppplhaaGreatDoor.K.num_read.f k x1).bind fun bt107 => ((_root_.Go.Proofs.YtcpaajecppplhaaGreatDoor.Hd.Div1.f bt103.1 bt103.2 bt107.1 bt107.2).bind fun bt111 => ((L.num_told.f k bt111.1 bt111.2).bind fun bt115 => (some (bt115.1, bt115.2))))))
def num_of_Div1.f (k : Nat) (a0 : ByteArray) (a1 : ByteArray) : Option (ByteArray × Int) := (Go.Proofs.YtcpaajecppplhaaGreatDoor.K.num_May.f a0).bind fun t101 => (if t101 = true then ((Go.Proofs.YtcpaajecppplhaaGreatDoor.K.num_May.f a1).bind fun t102 => (num_of_Div1.j0 k a0 a1 (!t102))) else (num_of_Div1.j0 k a0 a1 true))
set_option maxHeartbeats 8000000 in
set_option maxRecDepth 100000 in
theorem num_of_Div1.calls (k : Nat) (a0 : ByteArray) (a1 : ByteArray) (r1 : ByteArray) (r2 : Int) (w : World) (hG : Hd.GL w) (h : num_of_Div1.f k a0 a1 = some (r1, r2)) :
    Calls Tryz.prog 157 #[.string a0, .string a1, .func (.func 163) #[] #[]] w fun e w' => e = .returned (.tuple #[.string r1, .int .i64 r2]) ∧ Below w.heap.size w w' := by
  have HGL := Aside0.mk hG
  clear hG
  have HB := Aside0.mk (Below.refl w.heap.size w)
  have H : ((Go.Proofs.YtcpaajecppplhaaGreatDoor.K.num_May.f a0).bind fun t101 => (if t101 = true then ((Go.Proofs.YtcpaajecppplhaaGreatDoor.K.num_May.f a1).bind fun t102 => (num_of_Div1.j0 k a0 a1 (!t102))) else (num_of_Div1.j0 k a0 a1 true))) = some (r1, r2) := h
  clear h
  have HC3 := Aside0.mk H
  clear H
  go_enter Tryz.func157, Tryz.ntmps157
  go_upto_region 1 with (fail)
  go_cut [15] (fun v15 wc => ∃ (kq : Nat) (x15_2 : Bool), v15 = .bool x15_2 ∧ Aside0 (num_of_Div1.j0 kq a0 a1 x15_2 = some (r1, r2)) ∧ Aside0 (kq ≤ k) ∧ Aside0 (Below w.heap.size w wc))
  case first =>
    have H := HC3.out
    clear HC3
    refine bnd H ?_; clear H; intro t101 A4 H
    go_wp2_with (first | ((with_reducible refine gate_callee (f := 70) rfl ?_); refine goesB w Tryz.func70 (some 9) (Go.Proofs.YtcpaajecppplhaaGreatDoor.K.num_May.calls _ _ _ A4.out) bkB ?_; clear HB; intro w7 HB; refine halt ?_))
    refine ⟨?_⟩
    refine iteB H ?_ ?_ <;> clear H <;> rintro rfl H
    · refine bnd H ?_; clear H; intro t102 A6 H
      go_wp2_with (first | (go_at_call 70; (with_reducible refine (Go.Proofs.YtcpaajecppplhaaGreatDoor.K.num_May.calls a1 t102 _ A6.out).mono ?_); rintro e w8 ⟨rfl, hb⟩; replace HB := kS HB hb; (try clear hb); (try clear hb2); (try clear hk); (try clear hi); refine halt ?_))
      refine ⟨?_⟩
      have H' := Aside0.mk H
      clear H
      go_wp2
      go_meet
      case rel => exact ⟨_, (!t102), bkF, H', ⟨by first | omega | exact Nat.le_refl _⟩, ⟨bkB⟩⟩
    · have H' := Aside0.mk H
      clear H
      go_wp2
      go_meet
      case rel => exact ⟨_, (true), bkF, H', ⟨by first | omega | exact Nat.le_refl _⟩, ⟨bkB⟩⟩
  case rest =>
    clear HC3
    try clear c1
    try clear p2
    try clear c5
    try clear c7
    obtain ⟨kq, x15_2, rfl, HA, HJ2, HB⟩ := hcut
    cases kq with
    | zero => exact absurd HA.out (by simp [num_of_Div1.j0])
    | succ kj2 =>
      have H := HA.out
      clear HA
      simp only [num_of_Div1.j0] at H
      refine iteB H ?_ ?_ <;> clear H <;> rintro rfl H
      · simp only [Option.some.injEq, Prod.mk.injEq] at H
        obtain ⟨rfl, rfl⟩ := H
        go_wp2
        go_ret2
        exact ⟨bkE, bkB⟩
      · refine bnd2 H ?_; clear H; intro t103 t106 A11 H; try dsimp only at H
        go_wp2_with (first | ((with_reducible refine gate_callee (f := 166) rfl ?_); refine goesC (args := #[.string a0]) Tryz.func166 (some 18) (Go.Proofs.YtcpaajecppplhaaGreatDoor.K.num_read.calls kj2 a0 t103 t106 _ A11.out) ?_; rintro e w15 ⟨v104, rfl, ho0, hb⟩; refine ⟨_, rfl, ?_⟩; have n0_ := Aside0.mk (Kd.V_lower (Kd.V_mono (ok' := fun k_ => True) ho0 (fun k_ hk_ => trivial)) (below_size bkB)); have HO105 := n0_; clear n0_; replace HB := kS HB hb; (try clear hb); (try clear hb2); (try clear hk); (try clear hi); (try clear ho0); refine halt ?_))
        refine ⟨?_⟩
        refine bnd2 H ?_; clear H; intro t107 t110 A12 H; try dsimp only at H
        go_wp2_with (first | ((with_reducible refine gate_callee (f := 166) rfl ?_); refine goesC (args := #[.string a1]) Tryz.func166 (some 20) (Go.Proofs.YtcpaajecppplhaaGreatDoor.K.num_read.calls kj2 a1 t107 t110 _ A12.out) ?_; rintro e w16 ⟨v108, rfl, ho0, hb⟩; refine ⟨_, rfl, ?_⟩; have n1_ := Aside0.mk (Kd.V_lower (Kd.V_mono (ok' := fun k_ => True) ho0 (fun k_ hk_ => trivial)) (below_size bkB)); have HO109 := n1_; clear n1_; replace HO105 := kV HO105 hb; replace HB := kS HB hb; (try clear hb); (try clear hb2); (try clear hk); (try clear hi); (try clear ho0); obtain ⟨Ao17, co17, eo17⟩ := Kd.V_slice HO105.out; subst eo17; obtain ⟨Ao18, co18, eo18⟩ := Kd.V_slice HO109.out; subst eo18; refine halt ?_))
        refine ⟨?_⟩
        refine bnd2 H ?_; clear H; intro t111 t114 A13 H; try dsimp only at H
        go_wp2_with (first | (go_at_call 163; (with_reducible refine (_root_.Go.Proofs.YtcpaajecppplhaaGreatDoor.Hd.Div1.calls _ _ t103 t106 _ _ t107 t110 t111 t114 _ ?side1 ?side2 ?side3 ?side4 A13.out).mono ?_); (case side1 => repeat (first | exact (Kd.V_reads' HO105.out).2.2 | (with_reducible refine Kd.C_alloc ?_ _) | (with_reducible refine Kd.C_drewN ?_ _) | (with_reducible refine Kd.C_drew ?_))); (case side2 => exact (Kd.V_reads' HO105.out).2.1); (case side3 => repeat (first | exact (Kd.V_reads' HO109.out).2.2 | (with_reducible refine Kd.C_alloc ?_ _) | (with_reducible refine Kd.C_drewN ?_ _) | (with_reducible refine Kd.C_drew ?_))); (case side4 => exact (Kd.V_reads' HO109.out).2.1); rintro e w19 ⟨v112, rfl, ho0, hb⟩; have n2_ := Aside0.mk (Kd.V_lower (Kd.V_mono (ok' := fun k_ => True) ho0 (fun k_ hk_ => trivial)) (below_size bkB)); have HO113 := n2_; clear n2_; replace HO105 := kV HO105 hb; replace HO109 := kV HO109 hb; replace HB := kS HB hb; (try clear hb); (try clear hb2); (try clear hk); (try clear hi); (try clear ho0); obtain ⟨Ao20, co20, eo20⟩ := Kd.V_slice HO113.out; subst eo20; refine halt ?_))
        refine ⟨?_⟩
        refine bnd2 H ?_; clear H; intro t115 t116 A14 H; try dsimp only at H
        go_wp2_with (first | ((with_reducible refine gate_callee (f := 193) rfl ?_); refine goesC (args := #[.agg #[.slice Ao20 t111.length co20, .bool t114]]) Tryz.func193 (some 22) (L.num_told.calls kj2 _ _ t111 t114 t115 t116 _ ?side1 ?side2 ?side3 A14.out) ?_; (case side1 => repeat (first | exact (Kd.V_reads' HO113.out).2.2 | (with_reducible refine Kd.C_alloc ?_ _) | (with_reducible refine Kd.C_drewN ?_ _) | (with_reducible refine Kd.C_drew ?_))); (case side2 => exact (Kd.V_reads' HO113.out).2.1); (case side3 => exact Hd.GL.below HGL.out bkB); rintro e w21 ⟨rfl, hb⟩; refine ⟨_, rfl, ?_⟩; replace HO105 := kV HO105 hb; replace HO109 := kV HO109 hb; replace HO113 := kV HO113 hb; replace HB := kS HB hb; (try clear hb); (try clear hb2); (try clear hk); (try clear hi); refine halt ?_))
        refine ⟨?_⟩
        simp only [Option.some.injEq, Prod.mk.injEq] at H
        obtain ⟨rfl, rfl⟩ := H
        go_wp2
        go_ret2
        exact ⟨bkE, bkB⟩
/-! ### num_of_Mod1: function 310 -/
def num_of_Mod1.j0 : Nat → ByteArray → ByteArray → Bool → Option (ByteArray × Int)
  | 0, _, _, _ => none
  | k + 1, x0, x1, x15 => if x15 = true then (some ((⟨#[]⟩ : ByteArray), 1)) else ((Go.Proofs.YtcpaajecppplhaaGreatDoor.K.num_read.f k x0).bind fun bt119 => ((Go.Proofs.YtcpaajecppplhaaGreatDoor.K.num_read.f k x1).bind fun bt123 => ((_root_.Go.Proofs.YtcpaajecppplhaaGreatDoor.Hd.Mod1.f bt119.1 bt119.2 bt123.1 bt123.2).bind fun bt127 => ((L.num_told.f k bt127.1 bt127.2).bind fun bt131 => (some (bt131.1, bt131.2))))))
def num_of_Mod1.f (k : Nat) (a0 : ByteArray) (a1 : ByteArray) : Option (ByteArray × Int) := (Go.Proofs.YtcpaajecppplhaaGreatDoor.K.num_May.f a0).bind fun t117 => (if t117 = true then ((Go.Proofs.YtcpaajecppplhaaGreatDoor.K.num_May.f a1).bind fun t118 => (num_of_Mod1.j0 k a0 a1 (!t118))) else (num_of_Mod1.j0 k a0 a1 true))
set_option maxHeartbeats 8000000 in
set_option maxRecDepth 100000 in
theorem num_of_Mod1.calls (k : Nat) (a0 : ByteArray) (a1 : ByteArray) (r1 : ByteArray) (r2 : Int) (w : World) (hG : Hd.GL w) (h : num_of_Mod1.f k a0 a1 = some (r1, r2)) :
    Calls Tryz.prog 157 #[.string a0, .string a1, .func (.func 165) #[] #[]] w fun e w' => e = .returned (.tuple #[.string r1, .int .i64 r2]) ∧ Below w.heap.size w w' := by
  have HGL := Aside0.mk hG
  clear hG
  have HB := Aside0.mk (Below.refl w.heap.size w)
  have H : ((Go.Proofs.YtcpaajecppplhaaGreatDoor.K.num_May.f a0).bind fun t117 => (if t117 = true then ((Go.Proofs.YtcpaajecppplhaaGreatDoor.K.num_May.f a1).bind fun t118 => (num_of_Mod1.j0 k a0 a1 (!t118))) else (num_of_Mod1.j0 k a0 a1 true))) = some (r1, r2) := h
  clear h
  have HC3 := Aside0.mk H
  clear H
  go_enter Tryz.func157, Tryz.ntmps157
  go_upto_region 1 with (fail)
  go_cut [15] (fun v15 wc => ∃ (kq : Nat) (x15_2 : Bool), v15 = .bool x15_2 ∧ Aside0 (num_of_Mod1.j0 kq a0 a1 x15_2 = some (r1, r2)) ∧ Aside0 (kq ≤ k) ∧ Aside0 (Below w.heap.size w wc))
  case first =>
    have H := HC3.out
    clear HC3
    refine bnd H ?_; clear H; intro t117 A4 H
    go_wp2_with (first | ((with_reducible refine gate_callee (f := 70) rfl ?_); refine goesB w Tryz.func70 (some 9) (Go.Proofs.YtcpaajecppplhaaGreatDoor.K.num_May.calls _ _ _ A4.out) bkB ?_; clear HB; intro w7 HB; refine halt ?_))
    refine ⟨?_⟩
    refine iteB H ?_ ?_ <;> clear H <;> rintro rfl H
    · refine bnd H ?_; clear H; intro t118 A6 H
      go_wp2_with (first | (go_at_call 70; (with_reducible refine (Go.Proofs.YtcpaajecppplhaaGreatDoor.K.num_May.calls a1 t118 _ A6.out).mono ?_); rintro e w8 ⟨rfl, hb⟩; replace HB := kS HB hb; (try clear hb); (try clear hb2); (try clear hk); (try clear hi); refine halt ?_))
      refine ⟨?_⟩
      have H' := Aside0.mk H
      clear H
      go_wp2
      go_meet
      case rel => exact ⟨_, (!t118), bkF, H', ⟨by first | omega | exact Nat.le_refl _⟩, ⟨bkB⟩⟩
    · have H' := Aside0.mk H
      clear H
      go_wp2
      go_meet
      case rel => exact ⟨_, (true), bkF, H', ⟨by first | omega | exact Nat.le_refl _⟩, ⟨bkB⟩⟩
  case rest =>
    clear HC3
    try clear c1
    try clear p2
    try clear c5
    try clear c7
    obtain ⟨kq, x15_2, rfl, HA, HJ2, HB⟩ := hcut
    cases kq with
    | zero => exact absurd HA.out (by simp [num_of_Mod1.j0])
    | succ kj2 =>
      have H := HA.out
      clear HA
      simp only [num_of_Mod1.j0] at H
      refine iteB H ?_ ?_ <;> clear H <;> rintro rfl H
      · simp only [Option.some.injEq, Prod.mk.injEq] at H
        obtain ⟨rfl, rfl⟩ := H
        go_wp2
        go_ret2
        exact ⟨bkE, bkB⟩
      · refine bnd2 H ?_; clear H; intro t119 t122 A11 H; try dsimp only at H
        go_wp2_with (first | ((with_reducible refine gate_callee (f := 166) rfl ?_); refine goesC (args := #[.string a0]) Tryz.func166 (some 18) (Go.Proofs.YtcpaajecppplhaaGreatDoor.K.num_read.calls kj2 a0 t119 t122 _ A11.out) ?_; rintro e w15 ⟨v120, rfl, ho0, hb⟩; refine ⟨_, rfl, ?_⟩; have n0_ := Aside0.mk (Kd.V_lower (Kd.V_mono (ok' := fun k_ => True) ho0 (fun k_ hk_ => trivial)) (below_size bkB)); have HO121 := n0_; clear n0_; replace HB := kS HB hb; (try clear hb); (try clear hb2); (try clear hk); (try clear hi); (try clear ho0); refine halt ?_))
        refine ⟨?_⟩
        refine bnd2 H ?_; clear H; intro t123 t126 A12 H; try dsimp only at H
        go_wp2_with (first | ((with_reducible refine gate_callee (f := 166) rfl ?_); refine goesC (args := #[.string a1]) Tryz.func166 (some 20) (Go.Proofs.YtcpaajecppplhaaGreatDoor.K.num_read.calls kj2 a1 t123 t126 _ A12.out) ?_; rintro e w16 ⟨v124, rfl, ho0, hb⟩; refine ⟨_, rfl, ?_⟩; have n1_ := Aside0.mk (Kd.V_lower (Kd.V_mono (ok' := fun k_ => True) ho0 (fun k_ hk_ => trivial)) (below_size bkB)); have HO125 := n1_; clear n1_; replace HO121 := kV HO121 hb; replace HB := kS HB hb; (try clear hb); (try clear hb2); (try clear hk); (try clear hi); (try clear ho0); obtain ⟨Ao17, co17, eo17⟩ := Kd.V_slice HO121.out; subst eo17; obtain ⟨Ao18, co18, eo18⟩ := Kd.V_slice HO125.out; subst eo18; refine halt ?_))
        refine ⟨?_⟩
        refine bnd2 H ?_; clear H; intro t127 t130 A13 H; try dsimp only at H
        go_wp2_with (first | (go_at_call 165; (with_reducible refine (_root_.Go.Proofs.YtcpaajecppplhaaGreatDoor.Hd.Mod1.calls _ _ t119 t122 _ _ t123 t126 t127 t130 _ ?side1 ?side2 ?side3 ?side4 A13.out).mono ?_); (case side1 => repeat (first | exact (Kd.V_reads' HO121.out).2.2 | (with_reducible refine Kd.C_alloc ?_ _) | (with_reducible refine Kd.C_drewN ?_ _) | (with_reducible refine Kd.C_drew ?_))); (case side2 => exact (Kd.V_reads' HO121.out).2.1); (case side3 => repeat (first | exact (Kd.V_reads' HO125.out).2.2 | (with_reducible refine Kd.C_alloc ?_ _) | (with_reducible refine Kd.C_drewN ?_ _) | (with_reducible refine Kd.C_drew ?_))); (case side4 => exact (Kd.V_reads' HO125.out).2.1); rintro e w19 ⟨v128, rfl, ho0, hb⟩; have n2_ := Aside0.mk (Kd.V_lower (Kd.V_mono (ok' := fun k_ => True) ho0 (fun k_ hk_ => trivial)) (below_size bkB)); have HO129 := n2_; clear n2_; replace HO121 := kV HO121 hb; replace HO125 := kV HO125 hb; replace HB := kS HB hb; (try clear hb); (try clear hb2); (try clear hk); (try clear hi); (try clear ho0); obtain ⟨Ao20, co20, eo20⟩ := Kd.V_slice HO129.out; subst eo20; refine halt ?_))
        refine ⟨?_⟩
        refine bnd2 H ?_; clear H; intro t131 t132 A14 H; try dsimp only at H
        go_wp2_with (first | ((with_reducible refine gate_callee (f := 193) rfl ?_); refine goesC (args := #[.agg #[.slice Ao20 t127.length co20, .bool t130]]) Tryz.func193 (some 22) (L.num_told.calls kj2 _ _ t127 t130 t131 t132 _ ?side1 ?side2 ?side3 A14.out) ?_; (case side1 => repeat (first | exact (Kd.V_reads' HO129.out).2.2 | (with_reducible refine Kd.C_alloc ?_ _) | (with_reducible refine Kd.C_drewN ?_ _) | (with_reducible refine Kd.C_drew ?_))); (case side2 => exact (Kd.V_reads' HO129.out).2.1); (case side3 => exact Hd.GL.below HGL.out bkB); rintro e w21 ⟨rfl, hb⟩; refine ⟨_, rfl, ?_⟩; replace HO121 := kV HO121 hb; replace HO125 := kV HO125 hb; replace HO129 := kV HO129 hb; replace HB := kS HB hb; (try clear hb); (try clear hb2); (try clear hk); (try clear hi); refine halt ?_))
        refine ⟨?_⟩
        simp only [Option.some.injEq, Prod.mk.injEq] at H
        obtain ⟨rfl, rfl⟩ := H
        go_wp2
        go_ret2
        exact ⟨bkE, bkB⟩
/-! ### num_Div: function 96 -/
def num_Div.f (k : Nat) (a0 : ByteArray) (a1 : ByteArray) : Option (ByteArray × Int) := (Go.Proofs.YtcpaajecppplhaaGreatDoor.K.num_May.f a0).bind fun t133 => (if t133 = true then (if a1.toList = ([48] : List UInt8) then (some ((⟨#[]⟩ : ByteArray), 5)) else ((num_of_Div1.f k a0 a1).bind fun bt134 => (some (bt134.1, bt134.2)))) else ((num_of_Div1.f k a0 a1).bind fun bt136 => (some (bt136.1, bt136.2))))
set_option maxHeartbeats 8000000 in
set_option maxRecDepth 100000 in
theorem num_Div.calls (k : Nat) (a0 : ByteArray) (a1 : ByteArray) (r1 : ByteArray) (r2 : Int) (w : World) (hG : Hd.GL w) (h : num_Div.f k a0 a1 = some (r1, r2)) :
    Calls Tryz.prog 96 #[.string a0, .string a1] w fun e w' => e = .returned (.tuple #[.string r1, .int .i64 r2]) ∧ Below w.heap.size w w' := by
  have HGL := Aside0.mk hG
  clear hG
  have HB := Aside0.mk (Below.refl w.heap.size w)
  have H : ((Go.Proofs.YtcpaajecppplhaaGreatDoor.K.num_May.f a0).bind fun t133 => (if t133 = true then (if a1.toList = ([48] : List UInt8) then (some ((⟨#[]⟩ : ByteArray), 5)) else ((num_of_Div1.f k a0 a1).bind fun bt134 => (some (bt134.1, bt134.2)))) else ((num_of_Div1.f k a0 a1).bind fun bt136 => (some (bt136.1, bt136.2))))) = some (r1, r2) := h
  clear h
  refine bnd H ?_; clear H; intro t133 A3 H
  refine iteB H ?_ ?_ <;> clear H <;> rintro rfl H
  · by_cases c5 : a1.toList = ([48] : List UInt8)
    · rw [if_pos c5] at H
      have c5b0 : (a1.toList == ([48] : List UInt8)) = true := beq_iff_eq.mpr c5
      have c5b1 : (a1.toList != ([48] : List UInt8)) = false := bne_eq_false_iff_eq.mpr c5
      clear c5
      simp only [Option.some.injEq, Prod.mk.injEq] at H
      obtain ⟨rfl, rfl⟩ := H
      go_enter Tryz.func96, Tryz.ntmps96
      go_wp2_with (first | ((with_reducible refine gate_callee (f := 70) rfl ?_); refine goesL_ (some 7) rfl rfl Tryz.func70 (by kernel_rfl) rfl #[.string a0] rfl bkA ?_; (with_reducible refine (Go.Proofs.YtcpaajecppplhaaGreatDoor.K.num_May.calls a0 true _ A3.out).mono ?_); rintro e w6 ⟨rfl, hb⟩; refine ⟨_, rfl, ?_⟩; replace HB := kS HB hb; (try clear hb); (try clear hb2); (try clear hk); (try clear hi)))
      go_ret2
      exact ⟨bkE, bkB⟩
    · rw [if_neg c5] at H
      have c5b0 : (a1.toList == ([48] : List UInt8)) = false := beq_eq_false_iff_ne.mpr c5
      have c5b1 : (a1.toList != ([48] : List UInt8)) = true := bne_iff_ne.mpr c5
      refine bnd2 H ?_; clear H; intro t134 t135 A7 H; try dsimp only at H
      simp only [Option.some.injEq, Prod.mk.injEq] at H
      obtain ⟨rfl, rfl⟩ := H
      go_enter Tryz.func96, Tryz.ntmps96
      go_wp2_with (first | ((with_reducible refine gate_callee (f := 70) rfl ?_); refine goesL_ (some 7) rfl rfl Tryz.func70 (by kernel_rfl) rfl #[.string a0] rfl bkA ?_; (with_reducible refine (Go.Proofs.YtcpaajecppplhaaGreatDoor.K.num_May.calls a0 true _ A3.out).mono ?_); rintro e w8 ⟨rfl, hb⟩; refine ⟨_, rfl, ?_⟩; replace HB := kS HB hb; (try clear hb); (try clear hb2); (try clear hk); (try clear hi)) | ((with_reducible refine gate_callee (f := 157) rfl ?_); refine goesL_ (some 14) rfl rfl Tryz.func157 (by kernel_rfl) rfl #[.string a0, .string a1, .func (.func 163) #[] #[]] rfl bkA ?_; (with_reducible refine (num_of_Div1.calls k a0 a1 t134 t135 _ ?side1 A7.out).mono ?_); (case side1 => exact Hd.GL.below HGL.out bkB); rintro e w9 ⟨rfl, hb⟩; refine ⟨_, rfl, ?_⟩; replace HB := kS HB hb; (try clear hb); (try clear hb2); (try clear hk); (try clear hi)))
      go_ret2
      exact ⟨bkE, bkB⟩
  · refine bnd2 H ?_; clear H; intro t136 t137 A10 H; try dsimp only at H
    simp only [Option.some.injEq, Prod.mk.injEq] at H
    obtain ⟨rfl, rfl⟩ := H
    go_enter Tryz.func96, Tryz.ntmps96
    go_wp2_with (first | ((with_reducible refine gate_callee (f := 70) rfl ?_); refine goesL_ (some 7) rfl rfl Tryz.func70 (by kernel_rfl) rfl #[.string a0] rfl bkA ?_; (with_reducible refine (Go.Proofs.YtcpaajecppplhaaGreatDoor.K.num_May.calls a0 false _ A3.out).mono ?_); rintro e w11 ⟨rfl, hb⟩; refine ⟨_, rfl, ?_⟩; replace HB := kS HB hb; (try clear hb); (try clear hb2); (try clear hk); (try clear hi)) | ((with_reducible refine gate_callee (f := 157) rfl ?_); refine goesL_ (some 14) rfl rfl Tryz.func157 (by kernel_rfl) rfl #[.string a0, .string a1, .func (.func 163) #[] #[]] rfl bkA ?_; (with_reducible refine (num_of_Div1.calls k a0 a1 t136 t137 _ ?side1 A10.out).mono ?_); (case side1 => exact Hd.GL.below HGL.out bkB); rintro e w12 ⟨rfl, hb⟩; refine ⟨_, rfl, ?_⟩; replace HB := kS HB hb; (try clear hb); (try clear hb2); (try clear hk); (try clear hi)))
    go_ret2
    exact ⟨bkE, bkB⟩
/-! ### num_Mod: function 97 -/
def num_Mod.f (k : Nat) (a0 : ByteArray) (a1 : ByteArray) : Option (ByteArray × Int) := (Go.Proofs.YtcpaajecppplhaaGreatDoor.K.num_May.f a0).bind fun t138 => (if t138 = true then (if a1.toList = ([48] : List UInt8) then (some ((⟨#[]⟩ : ByteArray), 5)) else ((num_of_Mod1.f k a0 a1).bind fun bt139 => (some (bt139.1, bt139.2)))) else ((num_of_Mod1.f k a0 a1).bind fun bt141 => (some (bt141.1, bt141.2))))
set_option maxHeartbeats 8000000 in
set_option maxRecDepth 100000 in
theorem num_Mod.calls (k : Nat) (a0 : ByteArray) (a1 : ByteArray) (r1 : ByteArray) (r2 : Int) (w : World) (hG : Hd.GL w) (h : num_Mod.f k a0 a1 = some (r1, r2)) :
    Calls Tryz.prog 97 #[.string a0, .string a1] w fun e w' => e = .returned (.tuple #[.string r1, .int .i64 r2]) ∧ Below w.heap.size w w' := by
  have HGL := Aside0.mk hG
  clear hG
  have HB := Aside0.mk (Below.refl w.heap.size w)
  have H : ((Go.Proofs.YtcpaajecppplhaaGreatDoor.K.num_May.f a0).bind fun t138 => (if t138 = true then (if a1.toList = ([48] : List UInt8) then (some ((⟨#[]⟩ : ByteArray), 5)) else ((num_of_Mod1.f k a0 a1).bind fun bt139 => (some (bt139.1, bt139.2)))) else ((num_of_Mod1.f k a0 a1).bind fun bt141 => (some (bt141.1, bt141.2))))) = some (r1, r2) := h
  clear h
  refine bnd H ?_; clear H; intro t138 A3 H
  refine iteB H ?_ ?_ <;> clear H <;> rintro rfl H
  · by_cases c5 : a1.toList = ([48] : List UInt8)
    · rw [if_pos c5] at H
      have c5b0 : (a1.toList == ([48] : List UInt8)) = true := beq_iff_eq.mpr c5
      have c5b1 : (a1.toList != ([48] : List UInt8)) = false := bne_eq_false_iff_eq.mpr c5
      clear c5
      simp only [Option.some.injEq, Prod.mk.injEq] at H
      obtain ⟨rfl, rfl⟩ := H
      go_enter Tryz.func97, Tryz.ntmps97
      go_wp2_with (first | ((with_reducible refine gate_callee (f := 70) rfl ?_); refine goesL_ (some 7) rfl rfl Tryz.func70 (by kernel_rfl) rfl #[.string a0] rfl bkA ?_; (with_reducible refine (Go.Proofs.YtcpaajecppplhaaGreatDoor.K.num_May.calls a0 true _ A3.out).mono ?_); rintro e w6 ⟨rfl, hb⟩; refine ⟨_, rfl, ?_⟩; replace HB := kS HB hb; (try clear hb); (try clear hb2); (try clear hk); (try clear hi)))
      go_ret2
      exact ⟨bkE, bkB⟩
    · rw [if_neg c5] at H
      have c5b0 : (a1.toList == ([48] : List UInt8)) = false := beq_eq_false_iff_ne.mpr c5
      have c5b1 : (a1.toList != ([48] : List UInt8)) = true := bne_iff_ne.mpr c5
      refine bnd2 H ?_; clear H; intro t139 t140 A7 H; try dsimp only at H
      simp only [Option.some.injEq, Prod.mk.injEq] at H
      obtain ⟨rfl, rfl⟩ := H
      go_enter Tryz.func97, Tryz.ntmps97
      go_wp2_with (first | ((with_reducible refine gate_callee (f := 70) rfl ?_); refine goesL_ (some 7) rfl rfl Tryz.func70 (by kernel_rfl) rfl #[.string a0] rfl bkA ?_; (with_reducible refine (Go.Proofs.YtcpaajecppplhaaGreatDoor.K.num_May.calls a0 true _ A3.out).mono ?_); rintro e w8 ⟨rfl, hb⟩; refine ⟨_, rfl, ?_⟩; replace HB := kS HB hb; (try clear hb); (try clear hb2); (try clear hk); (try clear hi)) | ((with_reducible refine gate_callee (f := 157) rfl ?_); refine goesL_ (some 14) rfl rfl Tryz.func157 (by kernel_rfl) rfl #[.string a0, .string a1, .func (.func 165) #[] #[]] rfl bkA ?_; (with_reducible refine (num_of_Mod1.calls k a0 a1 t139 t140 _ ?side1 A7.out).mono ?_); (case side1 => exact Hd.GL.below HGL.out bkB); rintro e w9 ⟨rfl, hb⟩; refine ⟨_, rfl, ?_⟩; replace HB := kS HB hb; (try clear hb); (try clear hb2); (try clear hk); (try clear hi)))
      go_ret2
      exact ⟨bkE, bkB⟩
  · refine bnd2 H ?_; clear H; intro t141 t142 A10 H; try dsimp only at H
    simp only [Option.some.injEq, Prod.mk.injEq] at H
    obtain ⟨rfl, rfl⟩ := H
    go_enter Tryz.func97, Tryz.ntmps97
    go_wp2_with (first | ((with_reducible refine gate_callee (f := 70) rfl ?_); refine goesL_ (some 7) rfl rfl Tryz.func70 (by kernel_rfl) rfl #[.string a0] rfl bkA ?_; (with_reducible refine (Go.Proofs.YtcpaajecppplhaaGreatDoor.K.num_May.calls a0 false _ A3.out).mono ?_); rintro e w11 ⟨rfl, hb⟩; refine ⟨_, rfl, ?_⟩; replace HB := kS HB hb; (try clear hb); (try clear hb2); (try clear hk); (try clear hi)) | ((with_reducible refine gate_callee (f := 157) rfl ?_); refine goesL_ (some 14) rfl rfl Tryz.func157 (by kernel_rfl) rfl #[.string a0, .string a1, .func (.func 165) #[] #[]] rfl bkA ?_; (with_reducible refine (num_of_Mod1.calls k a0 a1 t141 t142 _ ?side1 A10.out).mono ?_); (case side1 => exact Hd.GL.below HGL.out bkB); rintro e w12 ⟨rfl, hb⟩; refine ⟨_, rfl, ?_⟩; replace HB := kS HB hb; (try clear hb); (try clear hb2); (try clear hk); (try clear hi)))
    go_ret2
    exact ⟨bkE, bkB⟩
end Go.Proofs.YtcpaajecppplhaaGreatDoor.M
end
