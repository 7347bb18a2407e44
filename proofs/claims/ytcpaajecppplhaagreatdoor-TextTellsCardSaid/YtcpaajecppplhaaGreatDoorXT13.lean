/- What the law leans on, part 14: declarations of several texts of ours, in their order. -/
import Derived.Test.YtcpaajecppplhaaGreatDoorXT9
import Derived.Test.YtcpaajecppplhaaGreatDoorXT10
import Derived.Test.YtcpaajecppplhaaGreatDoorXT11
import Derived.Test.YtcpaajecppplhaaGreatDoorXT12
section
namespace Go.Proofs.YtcpaajecppplhaaGreatDoor.K
open Go.RowKit Go.Proofs.YtcpaajecppplhaaGreatDoorW.PrintWords Go.Proofs.YtcpaajecppplhaaGreatDoorW.PrintLast Go.Proofs.YtcpaajecppplhaaGreatDoorW.PrintMore Go.Proofs.YtcpaajecppplhaaGreatDoor.B
attribute [local go_sem] max2_int min2_int max_two min_two max_three min_three max_four min_four
set_option linter.unusedVariables false
set_option linter.unusedSimpArgs false
/-! ### shape_Items: function 78 -/
def shape_Items.f (l0 : List Int) : Option (Int × List Int) := if (l0.length : Int) = 0 then (some (1, ([] : List Int))) else (if 0 < (l0.length : Int) then (if 1 ≤ (l0.length : Int) then ((Hd.slices_Clone.f (l0.drop 1)).bind fun t313 => (some (rd l0 0, t313))) else (none)) else (none))
def shape_Items.T3 : Bool × List (List Nat × List Nat) := (true, [([], []), ([0], [0]), ([1], [1]), ([], []), ([3], [3]), ([4], [4]), ([2, 5, 0, 1, 2], [2]), ([5, 6, 0, 1, 2, 3, 4, 5, 6], [5])])
def shape_Items.B3 : List Nat := [0, 1, 3, 0, 8, 24, 63, 127]
theorem shape_Items.tab3 : rtab .any (opsOf Tryz.f78 3) = shape_Items.T3 := by kernel_rfl
theorem shape_Items.bits3 : waitsOk shape_Items.T3.2 shape_Items.B3 = true := by kernel_rfl
set_option maxHeartbeats 8000000 in
set_option maxRecDepth 100000 in
theorem shape_Items.calls (A0 : Option Addr) (c0 : Nat) (l0 : List Int) (r1 : Int) (r2 : List Int) (w : World) (hr0 : Kd.C (Kd.int .i64) w A0 l0.length l0) (hc0 : l0.length ≤ c0) (h : shape_Items.f l0 = some (r1, r2)) :
    Calls Tryz.prog 78 #[.slice A0 l0.length c0] w fun e w' => ∃ v1_ : Value, e = .returned (.tuple #[.int .i64 r1, v1_]) ∧ Kd.R (Kd.int .i64) 3 w' w.heap.size (fun _ => True) v1_ r2 ∧ Below w.heap.size w w' := by
  have HR0 := Aside0.mk hr0
  have HC0 := Aside0.mk hc0
  clear hr0 hc0
  have HB := Aside0.mk (Below.refl w.heap.size w)
  have H : (if (l0.length : Int) = 0 then (some (1, ([] : List Int))) else (if 0 < (l0.length : Int) then (if 1 ≤ (l0.length : Int) then ((Hd.slices_Clone.f (l0.drop 1)).bind fun t313 => (some (rd l0 0, t313))) else (none)) else (none))) = some (r1, r2) := h
  clear h
  refine iteE H ?_ ?_ <;> clear H <;> intro c2 H
  · have c2b0 : ((l0.length : Int) == 0) = true := beq_iff_eq.mpr c2
    have c2b1 : ((l0.length : Int) != 0) = false := bne_eq_false_iff_eq.mpr c2
    clear c2
    simp only [Option.some.injEq, Prod.mk.injEq] at H
    obtain ⟨rfl, rfl⟩ := H
    go_enter Tryz.func78, Tryz.ntmps78
    go_wp2
    go_ret2
    exact ⟨_, by first | rfl | (simp [errW_none, errW_some] <;> rfl) | (simp [*, errW_none, errW_some] <;> rfl), by first | exact Kd.R_nil _ _ _ _ _ | exact Kd.N_nil _ _ _ _ _ | exact Kd.V_nil _ _ _ _ _ | exact Kd.Q_nil _ _ _ _ _ | exact Kd.S_nil _ _ _ _ _, bkB⟩
  · have c2b0 : ((l0.length : Int) == 0) = false := beq_eq_false_iff_ne.mpr c2
    have c2b1 : ((l0.length : Int) != 0) = true := bne_iff_ne.mpr c2
    have c2b2 : ¬ (l0 = []) := fun h_ => c2 (by rw [h_]; rfl)
    refine iteE H ?_ ?_ <;> clear H <;> intro c3 H
    · have c3b0 : decide (0 < (l0.length : Int)) = true := decide_eq_true c3
      have c3b1 : decide (0 < l0.length) = true := decide_eq_true (by omega)
      clear c3
      refine iteE H ?_ ?_ <;> clear H <;> intro c4 H
      · have c4b0 := eq_true c4
        have c4b1 : decide (1 ≤ (l0.length : Int)) = true := decide_eq_true c4
        clear c4
        refine bnd H ?_; clear H; intro t313 A5 H
        simp only [Option.some.injEq, Prod.mk.injEq] at H
        obtain ⟨rfl, rfl⟩ := H
        go_enter Tryz.func78, Tryz.ntmps78
        try go_wp2
        have n0_ := Aside0.mk (below_drew1 HB.out)
        clear HB
        have HB := n0_
        clear n0_
        have p311 : 0 ≤ (0 : Int) := (by omega)
        have q311 : 0 < (l0.length : Int) := of_decide_eq_true (by first | (with_reducible assumption) | assumption)
        obtain ⟨ad311, e311, hx311_0⟩ := Kd.at_int HR0.out 0 p311 q311
        have hw311_0 := hx311_0
        (try rw [show ((0 : Int)).toNat = 0 from rfl] at hw311_0)
        (try rw [show 0 * 1 = 0 from rfl] at hw311_0)
        (try rw [Addr.add_zero'] at hw311_0)
        cases e311
        have qi311 : (0 < l0.length) = True := eq_true (by omega)
        (try rw [show ((0 : Int)).toNat = 0 from rfl] at hx311_0)
        (try rw [Addr.add_zero'] at hx311_0)
        replace hx311_0 := (HB.out.cell (World.block_lt_of_cell? w _ hx311_0)).trans hx311_0
        replace p311 := eq_true p311
        replace q311 := eq_true q311
        obtain ⟨i07, hi07, _, hsz7, _⟩ := info_parts info3
        obtain ⟨A7, hcut7, hA7, hC7⟩ := print_drop_of (P := Tryz.prog) (Value.int .i64) 0 22 3 .i64 Tryz.underlying22 hi07 hsz7 (some ad311) c0 l0 1 (by omega) (of_decide_eq_true (by first | (with_reducible assumption) | assumption)) HC0.out
        have HR312 := Aside0.mk (Kd.C_of_reads (h1 := fun _ => rfl) (hA7 _ (Kd.reads_of_C HR0.out)))
        have HC312 := Aside0.mk hC7
        clear hA7 hC7 hi07 hsz7
        refine start_ (n := 8) (S := fun w' => w'.cell? ad311 = some (.int .i64 (rd l0 0))) (ds := []) #[false, false, false, false, false, false, false, false] (by kernel_rfl) rfl rfl (((HB.out.cell (World.block_lt_of_cell? w _ hw311_0)).trans hw311_0)) (fun hHeld => ?_); refine with_tabW shape_Items.tab3 shape_Items.bits3 (fun HT_ HW_ => ?_)
        generalize w.drew = w6 at HB HR312 hx311_0 hHeld ⊢
        refine pure_ (i := 0) (N := some 7) (v := ?_) (a' := ?_) #[true, false, false, false, false, false, false, false] rfl rfl (any_of HT_.out (by kernel_rfl)) (fun _ _ _ h => h) (Or.inl ⟨by rfl, ?_⟩) ?_ ?_
        rotate_left
        · intro w'
          go_simp
          with_reducible rfl
        rotate_left
        · simp only [Act.put, List.setIfInBounds_toArray, List.set_cons_zero, List.set_cons_succ, i64_w, i32_w]
          rfl
        refine pure_ (i := 1) (N := some 8) (v := ?_) (a' := ?_) #[true, true, false, false, false, false, false, false] rfl rfl (any_of HT_.out (by kernel_rfl)) (fun _ _ _ h => h) (Or.inl ⟨by rfl, ?_⟩) ?_ ?_
        rotate_left
        · intro w'
          go_simp
          with_reducible rfl
        rotate_left
        · simp only [Act.put, List.setIfInBounds_toArray, List.set_cons_zero, List.set_cons_succ, i64_w, i32_w]
          rfl
        refine pure_ (i := 3) (N := some 10) (v := ?_) (a' := ?_) #[true, true, false, true, false, false, false, false] rfl rfl (any_of HT_.out (by kernel_rfl)) (fun _ _ _ h => h) (Or.inl ⟨by rfl, ?_⟩) ?_ ?_
        rotate_left
        · intro w'
          go_simp
          with_reducible rfl
        rotate_left
        · simp only [Act.put, List.setIfInBounds_toArray, List.set_cons_zero, List.set_cons_succ, i64_w, i32_w]
          rfl
        refine pure_ (i := 4) (N := some 11) (v := ?_) (a' := ?_) #[true, true, false, true, true, false, false, false] rfl rfl (any_of HT_.out (by kernel_rfl)) (fun _ _ _ h => h) (Or.inl ⟨by rfl, ?_⟩) ?_ ?_
        rotate_left
        · intro w'
          go_simp
          with_reducible rfl
        rotate_left
        · simp only [Act.put, List.setIfInBounds_toArray, List.set_cons_zero, List.set_cons_succ, i64_w, i32_w]
          rfl
        refine take_ (i := 2) (N := some 9) (v := ?_) (a' := ?_) #[true, true, true, true, true, false, false, false] rfl rfl (take_ofW HT_.out HW_.out (by kernel_rfl)) (fun _ _ _ h => h) (Or.inl ⟨by rfl, ?_⟩) hHeld ?_ ?_
        rotate_left
        · intro w' s0
          go_simp
          with_reducible rfl
        rotate_left
        · simp only [Act.put, List.setIfInBounds_toArray, List.set_cons_zero, List.set_cons_succ, i64_w, i32_w]
          rfl
        refine one_ (i := 5) (N := some 12) #[true, true, true, true, true, true, false, false] rfl rfl (one_of HT_.out (by kernel_rfl)) (by decide) (fun K hK => ?_)
        refine goes_ Tryz.func84 (by kernel_rfl) rfl #[.slice A7 (l0.drop 1).length (c0 - 1)] (by rfl) rfl rfl (by (try simp only [List.map_toArray, List.map_cons, List.map_nil]); first | done | (rw [show (l0.drop 1).length = (l0.length - 1) from List.length_drop] <;> rfl) | rfl | (simp only [List.length_drop, List.length_take]; rfl)) ?_
        with_reducible refine (Hd.slices_Clone.calls _ _ (l0.drop 1) t313 _ ?side1 ?side2 A5.out).mono ?_
        (case side1 => repeat (first | exact (Kd.C_below HR312.out HB.out) | (with_reducible refine Kd.C_alloc ?_ _) | (with_reducible refine Kd.C_drewN ?_ _) | (with_reducible refine Kd.C_drew ?_)))
        (case side2 => exact HC312.out)
        rintro e w8 ⟨v314, rfl, ho0, hb⟩
        refine ⟨_, rfl, ?_⟩
        have n0_ := Aside0.mk (Kd.R_lower ho0 (below_size bkB))
        have n1_ := Aside0.mk (below_step bkB hb)
        clear HB
        have HO315 := n0_
        have HB := n1_
        clear n0_ n1_
        (try clear hb)
        (try clear hb2)
        (try clear hk)
        (try clear hi)
        (try clear ho0)
        refine hK.out _ _ (((HB.out.cell (World.block_lt_of_cell? w _ hw311_0)).trans hw311_0)) (fun hHeld => ?_)
        clear hK K
        refine norm_ (a' := ?_) ?_ ?_
        rotate_left
        · show Act.put _ (some 12) _ = _
          simp only [Act.put, List.setIfInBounds_toArray, List.set_cons_zero, List.set_cons_succ, i64_w, i32_w]
          rfl
        refine pure_ (i := 6) (N := some 2) (v := ?_) (a' := ?_) #[true, true, true, true, true, true, true, false] rfl rfl (any_of HT_.out (by kernel_rfl)) (fun _ _ _ h => h) (Or.inl ⟨by rfl, ?_⟩) ?_ ?_
        rotate_left
        · intro w'
          go_simp
          with_reducible rfl
        rotate_left
        · simp only [Act.put, List.setIfInBounds_toArray, List.set_cons_zero, List.set_cons_succ, i64_w, i32_w]
          rfl
        refine pure_ (i := 7) (N := some 3) (v := ?_) (a' := ?_) #[true, true, true, true, true, true, true, true] rfl rfl (any_of HT_.out (by kernel_rfl)) (fun _ _ _ h => h) (Or.inl ⟨by rfl, ?_⟩) ?_ ?_
        rotate_left
        · intro w'
          go_simp
          with_reducible rfl
        rotate_left
        · simp only [Act.put, List.setIfInBounds_toArray, List.set_cons_zero, List.set_cons_succ, i64_w, i32_w]
          rfl
        refine done_ (done_of HT_.out (by kernel_rfl)) ?_
        try go_wp2
        go_ret2
        exact ⟨_, by first | rfl | (simp [errW_none, errW_some] <;> rfl) | (simp [*, errW_none, errW_some] <;> rfl), by (with_reducible repeat (first | apply Kd.R_alloc | apply Kd.R_drewN | apply Kd.R_drew)); exact HO315.out, bkB⟩
      · exact absurd H (by simp)
    · exact absurd H (by simp)
/-! ### reredosref03_Size: function 80 -/
mutual
def reredosref03_Size.l0 : Nat → List Int → Bool → Int → Option (Int × Int)
  | 0, _, _, _ => none
  | k + 1, x0, x4, x5 => if x5 < (x0.length : Int) then (if 0 ≤ x5 then (if (rd x0 x5) < 0 then (some (0, 5)) else (if x4 = true then (reredosref03_Size.l0 k x0 true (wrap64 (x5 + 1))) else (reredosref03_Size.l0 k x0 ((rd x0 x5) == 0) (wrap64 (x5 + 1))))) else (none)) else (reredosref03_Size.l1 k x0 x4 0)
def reredosref03_Size.l1 : Nat → List Int → Bool → Int → Option (Int × Int)
  | 0, _, _, _ => none
  | k + 1, x0, x4, x6 => if x6 < (x0.length : Int) then (if 0 ≤ x6 then (if (rd x0 x6) > 1099511627776 then (some (0, 8)) else (reredosref03_Size.l1 k x0 x4 (wrap64 (x6 + 1)))) else (none)) else (if x4 = true then (some (0, 0)) else (reredosref03_Size.l2 k x0 1 0))
def reredosref03_Size.l2 : Nat → List Int → Int → Int → Option (Int × Int)
  | 0, _, _, _ => none
  | k + 1, x0, x7, x8 => if x8 < (x0.length : Int) then (if 0 ≤ x8 then (if (rd x0 x8) > 4096 then (some (0, 8)) else (if (wrap64 (x7 * (rd x0 x8))) > 4096 then (some (0, 8)) else (reredosref03_Size.l2 k x0 (wrap64 (x7 * (rd x0 x8))) (wrap64 (x8 + 1))))) else (none)) else (some (x7, 0))
end
def reredosref03_Size.f (k : Nat) (l0 : List Int) : Option (Int × Int) := if (l0.length : Int) > 3 then (some (0, 3)) else (reredosref03_Size.l0 k l0 false 0)
set_option maxHeartbeats 8000000 in
set_option maxRecDepth 100000 in
theorem reredosref03_Size.calls (k : Nat) (A0 : Option Addr) (c0 : Nat) (l0 : List Int) (r1 : Int) (r2 : Int) (w : World) (hr0 : Kd.C (Kd.int .i64) w A0 l0.length l0) (hc0 : l0.length ≤ c0) (h : reredosref03_Size.f k l0 = some (r1, r2)) :
    Calls Tryz.prog 80 #[.slice A0 l0.length c0] w fun e w' => e = .returned (.tuple #[.int .i64 r1, .int .i64 r2]) ∧ Drawn0 w w' := by
  have HR0 := Aside0.mk hr0
  have HC0 := Aside0.mk hc0
  clear hr0 hc0
  have H : (if (l0.length : Int) > 3 then (some (0, 3)) else (reredosref03_Size.l0 k l0 false 0)) = some (r1, r2) := h
  clear h
  refine iteE H ?_ ?_ <;> clear H <;> intro c2 H
  · have c2b0 : decide (3 < (l0.length : Int)) = true := decide_eq_true c2
    have c2b1 : decide (3 < l0.length) = true := decide_eq_true (by omega)
    clear c2
    simp only [Option.some.injEq, Prod.mk.injEq] at H
    obtain ⟨rfl, rfl⟩ := H
    go_enter Tryz.func80, Tryz.ntmps80
    go_wp2
    go_ret2
    exact ⟨bkF, bkD⟩
  · have c2b0 : decide (3 < (l0.length : Int)) = false := decide_eq_false c2
    have c2b1 : decide (3 < l0.length) = false := decide_eq_false (by omega)
    clear c2
    have H' := Aside0.mk H
    clear H
    go_enter Tryz.func80, Tryz.ntmps80
    go_wp2
    go_loopg [4, 5] k (fun kq v4 v5 w' => ∃ (x4_1 : Bool) (x5_1 : Int), v4 = .bool x4_1 ∧ v5 = .int .i64 x5_1 ∧ Aside0 (reredosref03_Size.l0 kq l0 x4_1 x5_1 = some (r1, r2)) ∧ Aside0 (kq ≤ k) ∧ Drawn0 w w')
    case atStart => exact ⟨(false), (0), bkF, bkF, H', ⟨Nat.le_refl _⟩, bkD⟩
    case round =>
      clear H'
      try clear c2
      try clear c2b0
      try clear c2b1
      try clear p2
      obtain ⟨x4_1, x5_1, rfl, rfl, HA, HK1, ⟨m1, rfl⟩⟩ := hrel
      cases gk with
      | zero => exact absurd HA.out (by simp [reredosref03_Size.l0])
      | succ k1 =>
        have H := HA.out
        clear HA
        simp only [reredosref03_Size.l0] at H
        refine iteE H ?_ ?_ <;> clear H <;> intro c3 H
        · have c3b0 : decide (x5_1 < (l0.length : Int)) = true := decide_eq_true c3
          clear c3
          refine iteE H ?_ ?_ <;> clear H <;> intro c4 H
          · have c4b0 : decide (0 ≤ x5_1) = true := decide_eq_true c4
            clear c4
            refine iteE H ?_ ?_ <;> clear H <;> intro c5 H
            · have c5b0 : decide ((rd l0 x5_1) < 0) = true := decide_eq_true c5
              clear c5
              simp only [Option.some.injEq, Prod.mk.injEq] at H
              obtain ⟨rfl, rfl⟩ := H
              have p316 : 0 ≤ (x5_1 : Int) := of_decide_eq_true (by first | (with_reducible assumption) | assumption)
              have q316 : x5_1 < (l0.length : Int) := of_decide_eq_true (by first | (with_reducible assumption) | assumption)
              obtain ⟨ad316, e316, hx316_0⟩ := Kd.at_int HR0.out x5_1 p316 q316
              cases e316
              replace p316 := eq_true p316
              replace q316 := eq_true q316
              go_wp2
              go_ret2
              exact ⟨bkF, bkD⟩
            · have c5b0 : decide ((rd l0 x5_1) < 0) = false := decide_eq_false c5
              clear c5
              refine iteB H ?_ ?_ <;> clear H <;> rintro rfl H
              · have H' := Aside0.mk H
                clear H
                have p316 : 0 ≤ (x5_1 : Int) := of_decide_eq_true (by first | (with_reducible assumption) | assumption)
                have q316 : x5_1 < (l0.length : Int) := of_decide_eq_true (by first | (with_reducible assumption) | assumption)
                obtain ⟨ad316, e316, hx316_0⟩ := Kd.at_int HR0.out x5_1 p316 q316
                cases e316
                replace p316 := eq_true p316
                replace q316 := eq_true q316
                go_wp2
                go_roundg k1
                case measure => have := HK1.out; omega
                case rel => exact ⟨(true), (wrap64 (x5_1 + 1)), bkF, bkF, H', ⟨by have := HK1.out; omega⟩, bkD⟩
              · have H' := Aside0.mk H
                clear H
                have p316 : 0 ≤ (x5_1 : Int) := of_decide_eq_true (by first | (with_reducible assumption) | assumption)
                have q316 : x5_1 < (l0.length : Int) := of_decide_eq_true (by first | (with_reducible assumption) | assumption)
                obtain ⟨ad316, e316, hx316_0⟩ := Kd.at_int HR0.out x5_1 p316 q316
                cases e316
                replace p316 := eq_true p316
                replace q316 := eq_true q316
                have p317 : 0 ≤ (x5_1 : Int) := of_decide_eq_true (by first | (with_reducible assumption) | assumption)
                have q317 : x5_1 < (l0.length : Int) := of_decide_eq_true (by first | (with_reducible assumption) | assumption)
                obtain ⟨ad317, e317, hx317_0⟩ := Kd.at_int HR0.out x5_1 p317 q317
                obtain rfl : ad316 = ad317 := (by injection e317)
                replace p317 := eq_true p317
                replace q317 := eq_true q317
                go_wp2
                go_roundg k1
                case measure => have := HK1.out; omega
                case rel => exact ⟨(((rd l0 x5_1) == 0)), (wrap64 (x5_1 + 1)), bkF, bkF, H', ⟨by have := HK1.out; omega⟩, bkD⟩
          · exact absurd H (by simp)
        · have c3b0 : decide (x5_1 < (l0.length : Int)) = false := decide_eq_false c3
          clear c3
          have H' := Aside0.mk H
          clear H
          go_wp2
          go_loopg [6] k1 (fun kq v6 w' => ∃ (x6_2 : Int), v6 = .int .i64 x6_2 ∧ Aside0 (reredosref03_Size.l1 kq l0 x4_1 x6_2 = some (r1, r2)) ∧ Aside0 (kq ≤ k1) ∧ Drawn0 w w')
          case atStart => exact ⟨(0), bkF, H', ⟨Nat.le_refl _⟩, bkD⟩
          case round =>
            clear H'
            try clear c2
            try clear c2b0
            try clear c2b1
            try clear p2
            try clear c3
            try clear c3b0
            try clear p3
            try clear q3
            try clear hx3
            try clear c4
            try clear c4b0
            try clear c5
            try clear c5b0
            try clear c6
            try clear p6
            try clear hx316_0
            try clear hx317_0
            try clear p2
            try clear p316
            try clear p317
            try clear q316
            try clear q317
            obtain ⟨x6_2, rfl, HA, HK2, ⟨m2, rfl⟩⟩ := hrel
            cases gk with
            | zero => exact absurd HA.out (by simp [reredosref03_Size.l1])
            | succ k2 =>
              have H := HA.out
              clear HA
              simp only [reredosref03_Size.l1] at H
              refine iteE H ?_ ?_ <;> clear H <;> intro c7 H
              · have c7b0 : decide (x6_2 < (l0.length : Int)) = true := decide_eq_true c7
                clear c7
                refine iteE H ?_ ?_ <;> clear H <;> intro c8 H
                · have c8b0 : decide (0 ≤ x6_2) = true := decide_eq_true c8
                  clear c8
                  refine iteE H ?_ ?_ <;> clear H <;> intro c9 H
                  · have c9b0 : decide (1099511627776 < (rd l0 x6_2)) = true := decide_eq_true c9
                    clear c9
                    simp only [Option.some.injEq, Prod.mk.injEq] at H
                    obtain ⟨rfl, rfl⟩ := H
                    have p318 : 0 ≤ (x6_2 : Int) := of_decide_eq_true (by first | (with_reducible assumption) | assumption)
                    have q318 : x6_2 < (l0.length : Int) := of_decide_eq_true (by first | (with_reducible assumption) | assumption)
                    obtain ⟨ad318, e318, hx318_0⟩ := Kd.at_int HR0.out x6_2 p318 q318
                    cases e318
                    replace p318 := eq_true p318
                    replace q318 := eq_true q318
                    go_wp2
                    go_ret2
                    exact ⟨bkF, bkD⟩
                  · have c9b0 : decide (1099511627776 < (rd l0 x6_2)) = false := decide_eq_false c9
                    clear c9
                    have H' := Aside0.mk H
                    clear H
                    have p318 : 0 ≤ (x6_2 : Int) := of_decide_eq_true (by first | (with_reducible assumption) | assumption)
                    have q318 : x6_2 < (l0.length : Int) := of_decide_eq_true (by first | (with_reducible assumption) | assumption)
                    obtain ⟨ad318, e318, hx318_0⟩ := Kd.at_int HR0.out x6_2 p318 q318
                    cases e318
                    replace p318 := eq_true p318
                    replace q318 := eq_true q318
                    go_wp2
                    go_roundg k2
                    case measure => have := HK1.out; have := HK2.out; omega
                    case rel => exact ⟨(wrap64 (x6_2 + 1)), bkF, H', ⟨by have := HK1.out; have := HK2.out; omega⟩, bkD⟩
                · exact absurd H (by simp)
              · have c7b0 : decide (x6_2 < (l0.length : Int)) = false := decide_eq_false c7
                clear c7
                refine iteB H ?_ ?_ <;> clear H <;> rintro rfl H
                · simp only [Option.some.injEq, Prod.mk.injEq] at H
                  obtain ⟨rfl, rfl⟩ := H
                  go_wp2
                  go_ret2
                  exact ⟨bkF, bkD⟩
                · have H' := Aside0.mk H
                  clear H
                  go_wp2
                  go_loopg [7, 8] k2 (fun kq v7 v8 w' => ∃ (x7_3 : Int) (x8_3 : Int), v7 = .int .i64 x7_3 ∧ v8 = .int .i64 x8_3 ∧ Aside0 (reredosref03_Size.l2 kq l0 x7_3 x8_3 = some (r1, r2)) ∧ Aside0 (kq ≤ k2) ∧ Drawn0 w w')
                  case atStart => exact ⟨(1), (0), bkF, bkF, H', ⟨Nat.le_refl _⟩, bkD⟩
                  case round =>
                    clear H'
                    try clear c1
                    try clear c2
                    try clear c2b0
                    try clear c2b1
                    try clear p2
                    try clear c3
                    try clear c3b0
                    try clear p3
                    try clear q3
                    try clear hx3
                    try clear c4
                    try clear c4b0
                    try clear c5
                    try clear c5b0
                    try clear c6
                    try clear p6
                    try clear c7
                    try clear c7b0
                    try clear c8
                    try clear c8b0
                    try clear c9
                    try clear c9b0
                    try clear c10
                    try clear hx316_0
                    try clear hx317_0
                    try clear hx318_0
                    try clear p2
                    try clear p3
                    try clear p316
                    try clear p317
                    try clear p318
                    try clear p6
                    try clear q3
                    try clear q316
                    try clear q317
                    try clear q318
                    obtain ⟨x7_3, x8_3, rfl, rfl, HA, HK3, ⟨m3, rfl⟩⟩ := hrel
                    cases gk with
                    | zero => exact absurd HA.out (by simp [reredosref03_Size.l2])
                    | succ k3 =>
                      have H := HA.out
                      clear HA
                      simp only [reredosref03_Size.l2] at H
                      refine iteE H ?_ ?_ <;> clear H <;> intro c11 H
                      · have c11b0 : decide (x8_3 < (l0.length : Int)) = true := decide_eq_true c11
                        clear c11
                        refine iteE H ?_ ?_ <;> clear H <;> intro c12 H
                        · have c12b0 : decide (0 ≤ x8_3) = true := decide_eq_true c12
                          clear c12
                          refine iteE H ?_ ?_ <;> clear H <;> intro c13 H
                          · have c13b0 : decide (4096 < (rd l0 x8_3)) = true := decide_eq_true c13
                            clear c13
                            simp only [Option.some.injEq, Prod.mk.injEq] at H
                            obtain ⟨rfl, rfl⟩ := H
                            have p319 : 0 ≤ (x8_3 : Int) := of_decide_eq_true (by first | (with_reducible assumption) | assumption)
                            have q319 : x8_3 < (l0.length : Int) := of_decide_eq_true (by first | (with_reducible assumption) | assumption)
                            obtain ⟨ad319, e319, hx319_0⟩ := Kd.at_int HR0.out x8_3 p319 q319
                            cases e319
                            replace p319 := eq_true p319
                            replace q319 := eq_true q319
                            go_wp2
                            go_ret2
                            exact ⟨bkF, bkD⟩
                          · have c13b0 : decide (4096 < (rd l0 x8_3)) = false := decide_eq_false c13
                            clear c13
                            refine iteE H ?_ ?_ <;> clear H <;> intro c14 H
                            · have c14b0 : decide (4096 < (wrap64 (x7_3 * (rd l0 x8_3)))) = true := decide_eq_true c14
                              clear c14
                              simp only [Option.some.injEq, Prod.mk.injEq] at H
                              obtain ⟨rfl, rfl⟩ := H
                              have p319 : 0 ≤ (x8_3 : Int) := of_decide_eq_true (by first | (with_reducible assumption) | assumption)
                              have q319 : x8_3 < (l0.length : Int) := of_decide_eq_true (by first | (with_reducible assumption) | assumption)
                              obtain ⟨ad319, e319, hx319_0⟩ := Kd.at_int HR0.out x8_3 p319 q319
                              cases e319
                              replace p319 := eq_true p319
                              replace q319 := eq_true q319
                              have p320 : 0 ≤ (x8_3 : Int) := of_decide_eq_true (by first | (with_reducible assumption) | assumption)
                              have q320 : x8_3 < (l0.length : Int) := of_decide_eq_true (by first | (with_reducible assumption) | assumption)
                              obtain ⟨ad320, e320, hx320_0⟩ := Kd.at_int HR0.out x8_3 p320 q320
                              obtain rfl : ad319 = ad320 := (by injection e320)
                              replace p320 := eq_true p320
                              replace q320 := eq_true q320
                              go_wp2
                              go_ret2
                              exact ⟨bkF, bkD⟩
                            · have c14b0 : decide (4096 < (wrap64 (x7_3 * (rd l0 x8_3)))) = false := decide_eq_false c14
                              clear c14
                              have H' := Aside0.mk H
                              clear H
                              have p319 : 0 ≤ (x8_3 : Int) := of_decide_eq_true (by first | (with_reducible assumption) | assumption)
                              have q319 : x8_3 < (l0.length : Int) := of_decide_eq_true (by first | (with_reducible assumption) | assumption)
                              obtain ⟨ad319, e319, hx319_0⟩ := Kd.at_int HR0.out x8_3 p319 q319
                              cases e319
                              replace p319 := eq_true p319
                              replace q319 := eq_true q319
                              have p320 : 0 ≤ (x8_3 : Int) := of_decide_eq_true (by first | (with_reducible assumption) | assumption)
                              have q320 : x8_3 < (l0.length : Int) := of_decide_eq_true (by first | (with_reducible assumption) | assumption)
                              obtain ⟨ad320, e320, hx320_0⟩ := Kd.at_int HR0.out x8_3 p320 q320
                              obtain rfl : ad319 = ad320 := (by injection e320)
                              replace p320 := eq_true p320
                              replace q320 := eq_true q320
                              have p321 : 0 ≤ (x8_3 : Int) := of_decide_eq_true (by first | (with_reducible assumption) | assumption)
                              have q321 : x8_3 < (l0.length : Int) := of_decide_eq_true (by first | (with_reducible assumption) | assumption)
                              obtain ⟨ad321, e321, hx321_0⟩ := Kd.at_int HR0.out x8_3 p321 q321
                              obtain rfl : ad319 = ad321 := (by injection e321)
                              replace p321 := eq_true p321
                              replace q321 := eq_true q321
                              go_wp2
                              go_roundg k3
                              case measure => have := HK1.out; have := HK2.out; have := HK3.out; omega
                              case rel => exact ⟨(wrap64 (x7_3 * (rd l0 x8_3))), (wrap64 (x8_3 + 1)), bkF, bkF, H', ⟨by have := HK1.out; have := HK2.out; have := HK3.out; omega⟩, bkD⟩
                        · exact absurd H (by simp)
                      · have c11b0 : decide (x8_3 < (l0.length : Int)) = false := decide_eq_false c11
                        clear c11
                        simp only [Option.some.injEq, Prod.mk.injEq] at H
                        obtain ⟨rfl, rfl⟩ := H
                        go_wp2
                        go_ret2
                        exact ⟨bkF, bkD⟩
/-! ### reredosref03_Same: function 67 -/
def reredosref03_Same.l0 : Nat → List Int → List Int → Int → Option (Bool)
  | 0, _, _, _ => none
  | k + 1, x0, x1, x5 => if x5 < (x0.length : Int) then (if 0 ≤ x5 then (if x5 < (x1.length : Int) then (if (rd x0 x5) = (rd x1 x5) then (reredosref03_Same.l0 k x0 x1 (wrap64 (x5 + 1))) else (some false)) else (none)) else (none)) else (some true)
def reredosref03_Same.f (k : Nat) (l0 : List Int) (l1 : List Int) : Option (Bool) := if (l0.length : Int) = (l1.length : Int) then (reredosref03_Same.l0 k l0 l1 0) else (some false)
set_option maxHeartbeats 8000000 in
set_option maxRecDepth 100000 in
theorem reredosref03_Same.calls (k : Nat) (A0 : Option Addr) (c0 : Nat) (l0 : List Int) (A1 : Option Addr) (c1 : Nat) (l1 : List Int) (r : Bool) (w : World) (hr0 : Kd.C (Kd.int .i64) w A0 l0.length l0) (hc0 : l0.length ≤ c0) (hr1 : Kd.C (Kd.int .i64) w A1 l1.length l1) (hc1 : l1.length ≤ c1) (h : reredosref03_Same.f k l0 l1 = some r) :
    Calls Tryz.prog 67 #[.slice A0 l0.length c0, .slice A1 l1.length c1] w fun e w' => e = .returned (.bool r) ∧ Drawn0 w w' := by
  have HR0 := Aside0.mk hr0
  have HC0 := Aside0.mk hc0
  clear hr0 hc0
  have HR1 := Aside0.mk hr1
  have HC1 := Aside0.mk hc1
  clear hr1 hc1
  have H : (if (l0.length : Int) = (l1.length : Int) then (reredosref03_Same.l0 k l0 l1 0) else (some false)) = some r := h
  clear h
  refine iteE H ?_ ?_ <;> clear H <;> intro c3 H
  · have c3b0 : ((l0.length : Int) == (l1.length : Int)) = true := beq_iff_eq.mpr c3
    have c3b1 : ((l0.length : Int) != (l1.length : Int)) = false := bne_eq_false_iff_eq.mpr c3
    have c3b2 : (l0.length == l1.length) = true := by first | simpa using c3 | (simp at c3 ⊢; omega)
    clear c3
    have H' := Aside0.mk H
    clear H
    go_enter Tryz.func67, Tryz.ntmps67
    go_wp2
    repeat (go_quiet (fail); try go_wp2)
    go_loopg [5] k (fun kq v5 w' => ∃ (x5_1 : Int), v5 = .int .i64 x5_1 ∧ Aside0 (reredosref03_Same.l0 kq l0 l1 x5_1 = some r) ∧ Aside0 (kq ≤ k) ∧ Drawn0 w w')
    case atStart => exact ⟨(0), bkF, H', ⟨Nat.le_refl _⟩, bkD⟩
    case round =>
      clear H'
      try clear c1
      try clear p2
      try clear c3
      try clear c3b0
      try clear c3b1
      try clear c3b2
      obtain ⟨x5_1, rfl, HA, HK1, ⟨m1, rfl⟩⟩ := hrel
      cases gk with
      | zero => exact absurd HA.out (by simp [reredosref03_Same.l0])
      | succ k1 =>
        have H := HA.out
        clear HA
        simp only [reredosref03_Same.l0] at H
        refine iteE H ?_ ?_ <;> clear H <;> intro c4 H
        · have c4b0 : decide (x5_1 < (l0.length : Int)) = true := decide_eq_true c4
          clear c4
          refine iteE H ?_ ?_ <;> clear H <;> intro c5 H
          · have c5b0 : decide (0 ≤ x5_1) = true := decide_eq_true c5
            clear c5
            refine iteE H ?_ ?_ <;> clear H <;> intro c6 H
            · have c6b0 : decide (x5_1 < (l1.length : Int)) = true := decide_eq_true c6
              clear c6
              refine iteE H ?_ ?_ <;> clear H <;> intro c7 H
              · have c7b0 : ((rd l0 x5_1) == (rd l1 x5_1)) = true := beq_iff_eq.mpr c7
                have c7b1 : ((rd l0 x5_1) != (rd l1 x5_1)) = false := bne_eq_false_iff_eq.mpr c7
                clear c7
                have H' := Aside0.mk H
                clear H
                have p322 : 0 ≤ (x5_1 : Int) := of_decide_eq_true (by first | (with_reducible assumption) | assumption)
                have q322 : x5_1 < (l0.length : Int) := of_decide_eq_true (by first | (with_reducible assumption) | assumption)
                obtain ⟨ad322, e322, hx322_0⟩ := Kd.at_int HR0.out x5_1 p322 q322
                cases e322
                replace p322 := eq_true p322
                replace q322 := eq_true q322
                have p323 : 0 ≤ (x5_1 : Int) := of_decide_eq_true (by first | (with_reducible assumption) | assumption)
                have q323 : x5_1 < (l1.length : Int) := of_decide_eq_true (by first | (with_reducible assumption) | assumption)
                obtain ⟨ad323, e323, hx323_0⟩ := Kd.at_int HR1.out x5_1 p323 q323
                cases e323
                replace p323 := eq_true p323
                replace q323 := eq_true q323
                go_wp2
                repeat (go_quiet (fail); try go_wp2)
                go_roundg k1
                case measure => have := HK1.out; omega
                case rel => exact ⟨(wrap64 (x5_1 + 1)), bkF, H', ⟨by have := HK1.out; omega⟩, bkD⟩
              · have c7b0 : ((rd l0 x5_1) == (rd l1 x5_1)) = false := beq_eq_false_iff_ne.mpr c7
                have c7b1 : ((rd l0 x5_1) != (rd l1 x5_1)) = true := bne_iff_ne.mpr c7
                obtain rfl := Option.some.inj H
                have p322 : 0 ≤ (x5_1 : Int) := of_decide_eq_true (by first | (with_reducible assumption) | assumption)
                have q322 : x5_1 < (l0.length : Int) := of_decide_eq_true (by first | (with_reducible assumption) | assumption)
                obtain ⟨ad322, e322, hx322_0⟩ := Kd.at_int HR0.out x5_1 p322 q322
                cases e322
                replace p322 := eq_true p322
                replace q322 := eq_true q322
                have p323 : 0 ≤ (x5_1 : Int) := of_decide_eq_true (by first | (with_reducible assumption) | assumption)
                have q323 : x5_1 < (l1.length : Int) := of_decide_eq_true (by first | (with_reducible assumption) | assumption)
                obtain ⟨ad323, e323, hx323_0⟩ := Kd.at_int HR1.out x5_1 p323 q323
                cases e323
                replace p323 := eq_true p323
                replace q323 := eq_true q323
                go_wp2
                repeat (go_quiet (fail); try go_wp2)
                go_ret
                exact ⟨bkF, bkD⟩
            · exact absurd H (by simp)
          · exact absurd H (by simp)
        · have c4b0 : decide (x5_1 < (l0.length : Int)) = false := decide_eq_false c4
          clear c4
          obtain rfl := Option.some.inj H
          go_wp2
          repeat (go_quiet (fail); try go_wp2)
          go_ret
          exact ⟨bkF, bkD⟩
  · have c3b0 : ((l0.length : Int) == (l1.length : Int)) = false := beq_eq_false_iff_ne.mpr c3
    have c3b1 : ((l0.length : Int) != (l1.length : Int)) = true := bne_iff_ne.mpr c3
    have c3b2 : (l0.length == l1.length) = false := by first | simpa using c3 | (simp at c3 ⊢; omega)
    obtain rfl := Option.some.inj H
    go_enter Tryz.func67, Tryz.ntmps67
    go_wp2
    repeat (go_quiet (fail); try go_wp2)
    go_ret
    exact ⟨bkF, bkD⟩
/-! ### val_May_1: function 69 -/
def val_May_1.f (a0 : ByteArray) : Option (Bool) := (num_May.f a0).bind fun t325 => (some (!t325))
set_option maxHeartbeats 8000000 in
set_option maxRecDepth 100000 in
theorem val_May_1.calls (a0 : ByteArray) (r : Bool) (w : World) (h : val_May_1.f a0 = some r) :
    Calls Tryz.prog 69 #[.string a0] w fun e w' => e = .returned (.bool r) ∧ Below w.heap.size w w' := by
  have HB := Aside0.mk (Below.refl w.heap.size w)
  have H : ((num_May.f a0).bind fun t325 => (some (!t325))) = some r := h
  clear h
  refine bnd H ?_; clear H; intro t325 A2 H
  obtain rfl := Option.some.inj H
  go_enter Tryz.func69, Tryz.ntmps69
  go_wp2_with (first | ((with_reducible refine gate_callee (f := 70) rfl ?_); refine goesL_ (some 4) rfl rfl Tryz.func70 (by kernel_rfl) rfl #[.string a0] rfl bkA ?_; (with_reducible refine (num_May.calls a0 t325 _ A2.out).mono ?_); rintro e w3 ⟨rfl, hb⟩; refine ⟨_, rfl, ?_⟩; replace HB := bkS hb; clear hb; (try clear hb2); (try clear hk); (try clear hi)))
  go_ret
  exact ⟨bkE, bkB⟩
end Go.Proofs.YtcpaajecppplhaaGreatDoor.K
end
