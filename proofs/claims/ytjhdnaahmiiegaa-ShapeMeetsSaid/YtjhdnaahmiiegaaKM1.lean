-- Written by wip/myprint.py, a program of this session over the kit's printer; Lean checks it.
import Derived.Test.YtjhdnaahmiiegaaKM0
namespace Go.Proofs.Ytjhdnaahmiiegaa.KM
open Go.RowKit Go.Proofs.YtjhdnaahmiiegaaW.PrintWords Go.Proofs.YtjhdnaahmiiegaaW.PrintLast Go.Proofs.YtjhdnaahmiiegaaW.PrintMore Go.Proofs.Ytjhdnaahmiiegaa.B Go.Proofs.Ytjhdnaahmiiegaa.K
attribute [local go_sem] max2_int min2_int max_two min_two max_three min_three max_four min_four   -- for this text's walks alone
set_option linter.unusedVariables false
set_option linter.unusedSimpArgs false

/-! ### reredosref03_Meet: function 21 -/
def reredosref03_Meet.j0 : Nat → List Int → List Int → Bool → Option (List Int × Int)
  | 0, _, _, _ => none
  | k + 1, x0, x1, x13 => if x13 = true then (some (x0, 0)) else (if (x0.length : Int) = 0 then (some (x1, 0)) else (some (([] : List Int), 4)))
def reredosref03_Meet.f (k : Nat) (l0 : List Int) (l1 : List Int) : Option (List Int × Int) := if (l1.length : Int) = 0 then (reredosref03_Meet.j0 k l0 l1 true) else ((K.reredosref03_Same.f k l0 l1).bind fun t101 => (reredosref03_Meet.j0 k l0 l1 t101))
theorem reredosref03_Meet.mono_l : ∀ k, (∀ y0 y1 y2, LeO (reredosref03_Meet.j0 k y0 y1 y2) (reredosref03_Meet.j0 (k + 1) y0 y1 y2))
  | 0 => fun _ _ _ r h => by simp [reredosref03_Meet.j0] at h
  | k + 1 => by
    have ih0 := reredosref03_Meet.mono_l k
    · intro y0 y1 y2
      unfold reredosref03_Meet.j0
      repeat' first
      | (with_reducible exact ih0 _ _ _)
      | (with_reducible exact K.reredosref03_Same.mono _ _ _)
      | (with_reducible exact LeO.refl _)
      | (with_reducible exact LeO.none _)
      | (with_reducible refine LeO.ite ?_ ?_)
      | (with_reducible refine LeO.bind ?_ (fun _ => ?_))
      | exact ih0 _ _ _
      | exact K.reredosref03_Same.mono _ _ _
      | exact LeO.none _
      | refine LeO.ite ?_ ?_
      | refine LeO.bind ?_ (fun _ => ?_)
theorem reredosref03_Meet.mono : ∀ a0 a1 k, LeO (reredosref03_Meet.f k a0 a1) (reredosref03_Meet.f (k + 1) a0 a1) := by
  intro a0 a1 k
  have ih0 := reredosref03_Meet.mono_l k
  unfold reredosref03_Meet.f
  repeat' first
      | (with_reducible exact ih0 _ _ _)
      | (with_reducible exact K.reredosref03_Same.mono _ _ _)
      | (with_reducible exact LeO.refl _)
      | (with_reducible exact LeO.none _)
      | (with_reducible refine LeO.ite ?_ ?_)
      | (with_reducible refine LeO.bind ?_ (fun _ => ?_))
      | exact ih0 _ _ _
      | exact K.reredosref03_Same.mono _ _ _
      | exact LeO.none _
      | refine LeO.ite ?_ ?_
      | refine LeO.bind ?_ (fun _ => ?_)
set_option maxHeartbeats 8000000 in
set_option maxRecDepth 100000 in
theorem reredosref03_Meet.calls (k : Nat) (P0_ : Nat → Prop) (A0 : Option Addr) (c0 : Nat) (l0 : List Int) (P1_ : Nat → Prop) (A1 : Option Addr) (c1 : Nat) (l1 : List Int) (r1 : List Int) (r2 : Int) (w : World) (hs0 : Kd.V (Kd.int .i64) 3 w w.heap.size (fun k_ => P0_ k_) (.slice A0 l0.length c0) l0) (hs1 : Kd.V (Kd.int .i64) 3 w w.heap.size (fun k_ => P1_ k_) (.slice A1 l1.length c1) l1) (h : reredosref03_Meet.f k l0 l1 = some (r1, r2)) :
    Calls Try.prog 21 #[.slice A0 l0.length c0, .slice A1 l1.length c1] w fun e w' => ∃ v0_ : Value, e = .returned (.tuple #[v0_, .int .i64 r2]) ∧ Kd.V (Kd.int .i64) 3 w' w.heap.size (fun k_ => ((P0_ k_ ∨ P1_ k_) ∨ w.heap.size ≤ k_)) v0_ r1 ∧ Below w.heap.size w w' := by
  have HO0 := Aside0.mk (show Kd.V (Kd.int .i64) 3 w w.heap.size (fun k_ => ((P0_ k_ ∨ P1_ k_) ∨ w.heap.size ≤ k_)) (.slice A0 l0.length c0) l0 from Kd.V_mono hs0 (fun k_ hk => .inl (.inl hk)))
  have HO1 := Aside0.mk (show Kd.V (Kd.int .i64) 3 w w.heap.size (fun k_ => ((P0_ k_ ∨ P1_ k_) ∨ w.heap.size ≤ k_)) (.slice A1 l1.length c1) l1 from Kd.V_mono hs1 (fun k_ hk => .inl (.inr hk)))
  have HB := Aside0.mk (Below.refl w.heap.size w)
  have H : (if (l1.length : Int) = 0 then (reredosref03_Meet.j0 k l0 l1 true) else ((K.reredosref03_Same.f k l0 l1).bind fun t101 => (reredosref03_Meet.j0 k l0 l1 t101))) = some (r1, r2) := h
  clear h
  have HC3 := Aside0.mk H
  clear H
  go_enter Try.func21, Try.ntmps21
  go_upto_region 1 with (fail)
  go_cut [13] (fun v13 wc => ∃ (kq : Nat) (x13_2 : Bool), v13 = .bool x13_2 ∧ Aside0 (reredosref03_Meet.j0 kq l0 l1 x13_2 = some (r1, r2)) ∧ Aside0 (kq ≤ k) ∧ Aside0 (Kd.V (Kd.int .i64) 3 wc w.heap.size (fun k_ => ((P0_ k_ ∨ P1_ k_) ∨ w.heap.size ≤ k_)) (.slice A0 l0.length c0) l0) ∧ Aside0 (Kd.V (Kd.int .i64) 3 wc w.heap.size (fun k_ => ((P0_ k_ ∨ P1_ k_) ∨ w.heap.size ≤ k_)) (.slice A1 l1.length c1) l1) ∧ Aside0 (Below w.heap.size w wc))
  case first =>
    have H := HC3.out
    clear HC3
    by_cases c4 : (l1.length : Int) = 0
    · rw [if_pos c4] at H
      have c4b0 : ((l1.length : Int) == 0) = true := beq_iff_eq.mpr c4
      have c4b1 : ((l1.length : Int) != 0) = false := bne_eq_false_iff_eq.mpr c4
      clear c4
      (first | rw [c4b0] | (simp only [i64_w, i32_w]; rw [c4b0]) | skip)
      have H' := Aside0.mk H
      clear H
      go_wp2
      go_meet
      case rel => exact ⟨_, (true), (by first | rfl | (simp; done) | (simp [*]; done)), H', ⟨by first | omega | exact Nat.le_refl _⟩, ⟨by (with_reducible repeat (first | apply Kd.V_alloc | apply Kd.V_drewN | apply Kd.V_drew)); exact HO0.out⟩, ⟨by (with_reducible repeat (first | apply Kd.V_alloc | apply Kd.V_drewN | apply Kd.V_drew)); exact HO1.out⟩, ⟨by repeat (first | (with_reducible first | exact HB.out | apply below_alloc | apply pw_below_drewN | apply below_drew1) | exact HB.out)⟩⟩
    · rw [if_neg c4] at H
      have c4b0 : ((l1.length : Int) == 0) = false := beq_eq_false_iff_ne.mpr c4
      have c4b1 : ((l1.length : Int) != 0) = true := bne_iff_ne.mpr c4
      have c4b2 : ¬ (l1 = []) := fun h_ => c4 (by rw [h_]; rfl)
      (first | rw [c4b0] | (simp only [i64_w, i32_w]; rw [c4b0]) | skip)
      replace H := Option.bind_eq_some_iff.mp H
      obtain ⟨t101, A50, H⟩ := H
      replace H : (reredosref03_Meet.j0 k l0 l1 t101) = some (r1, r2) := H
      have A5 := Aside0.mk A50
      clear A50
      have H' := Aside0.mk H
      clear H
      go_wp2_with (first | (go_at_call 19; (with_reducible refine (K.reredosref03_Same.calls k _ _ l0 _ _ l1 t101 _ ?side1 ?side2 ?side3 ?side4 A5.out).mono ?_); (case side1 => repeat (first | exact (Kd.V_reads' HO0.out).2.2 | (with_reducible refine Kd.C_alloc ?_ _) | (with_reducible refine Kd.C_drewN ?_ _) | (with_reducible refine Kd.C_drew ?_))); (case side2 => exact (Kd.V_reads' HO0.out).2.1); (case side3 => repeat (first | exact (Kd.V_reads' HO1.out).2.2 | (with_reducible refine Kd.C_alloc ?_ _) | (with_reducible refine Kd.C_drewN ?_ _) | (with_reducible refine Kd.C_drew ?_))); (case side4 => exact (Kd.V_reads' HO1.out).2.1); rintro e w' ⟨rfl, ⟨nd, rfl⟩⟩))
      go_meet
      case rel => exact ⟨_, (t101), (by first | rfl | (simp; done) | (simp [*]; done)), H', ⟨by first | omega | exact Nat.le_refl _⟩, ⟨by (with_reducible repeat (first | apply Kd.V_alloc | apply Kd.V_drewN | apply Kd.V_drew)); exact HO0.out⟩, ⟨by (with_reducible repeat (first | apply Kd.V_alloc | apply Kd.V_drewN | apply Kd.V_drew)); exact HO1.out⟩, ⟨by repeat (first | (with_reducible first | exact HB.out | apply below_alloc | apply pw_below_drewN | apply below_drew1) | exact HB.out)⟩⟩
  case rest =>
    clear HC3
    try clear c1
    try clear c2
    try clear p2
    try clear c4
    try clear c4b0
    try clear c4b1
    try clear c4b2
    obtain ⟨kq, x13_2, rfl, HA, HJ2, HO_0, HO_1, HB⟩ := hcut
    cases kq with
    | zero => exact absurd HA.out (by simp [reredosref03_Meet.j0])
    | succ kj2 =>
      have H := HA.out
      clear HA
      simp only [reredosref03_Meet.j0] at H
      by_cases c6 : x13_2 = true
      · subst c6
        have H1 : (some (l0, 0)) = some (r1, r2) := by rw [if_pos rfl] at H; exact H
        clear H
        have H := H1
        clear H1
        simp only [Option.some.injEq, Prod.mk.injEq] at H
        obtain ⟨rfl, rfl⟩ := H
        go_wp2
        go_ret2
        exact ⟨_, by first | rfl | (simp [errW_none, errW_some] <;> rfl) | (simp [*, errW_none, errW_some] <;> rfl), by (with_reducible repeat (first | apply Kd.V_alloc | apply Kd.V_drewN | apply Kd.V_drew)); exact HO_0.out, by repeat (first | (with_reducible first | exact HB.out | apply below_alloc | apply pw_below_drewN | apply below_drew1) | exact HB.out)⟩
      · replace c6 := Bool.eq_false_iff.mpr c6
        subst c6
        have H1 : (if (l0.length : Int) = 0 then (some (l1, 0)) else (some (([] : List Int), 4))) = some (r1, r2) := by rw [if_neg (show ¬ (false = true) by decide)] at H; exact H
        clear H
        have H := H1
        clear H1
        by_cases c7 : (l0.length : Int) = 0
        · rw [if_pos c7] at H
          have c7b0 : ((l0.length : Int) == 0) = true := beq_iff_eq.mpr c7
          have c7b1 : ((l0.length : Int) != 0) = false := bne_eq_false_iff_eq.mpr c7
          clear c7
          simp only [Option.some.injEq, Prod.mk.injEq] at H
          obtain ⟨rfl, rfl⟩ := H
          go_wp2
          go_ret2
          exact ⟨_, by first | rfl | (simp [errW_none, errW_some] <;> rfl) | (simp [*, errW_none, errW_some] <;> rfl), by (with_reducible repeat (first | apply Kd.V_alloc | apply Kd.V_drewN | apply Kd.V_drew)); exact HO_1.out, by repeat (first | (with_reducible first | exact HB.out | apply below_alloc | apply pw_below_drewN | apply below_drew1) | exact HB.out)⟩
        · rw [if_neg c7] at H
          have c7b0 : ((l0.length : Int) == 0) = false := beq_eq_false_iff_ne.mpr c7
          have c7b1 : ((l0.length : Int) != 0) = true := bne_iff_ne.mpr c7
          have c7b2 : ¬ (l0 = []) := fun h_ => c7 (by rw [h_]; rfl)
          simp only [Option.some.injEq, Prod.mk.injEq] at H
          obtain ⟨rfl, rfl⟩ := H
          go_wp2
          go_ret2
          exact ⟨_, by first | rfl | (simp [errW_none, errW_some] <;> rfl) | (simp [*, errW_none, errW_some] <;> rfl), (Kd.V_nil _ _ _ _ _), by repeat (first | (with_reducible first | exact HB.out | apply below_alloc | apply pw_below_drewN | apply below_drew1) | exact HB.out)⟩

/-! ### reredosref03_Items: function 22 -/
def reredosref03_Items.f (l0 : List Int) : Option (Int × List Int) := if (l0.length : Int) = 0 then (some (1, ([] : List Int))) else (if 0 < (l0.length : Int) then (if 1 ≤ (l0.length : Int) then (some (rd l0 0, (l0.drop 1))) else (none)) else (none))
set_option maxHeartbeats 8000000 in
set_option maxRecDepth 100000 in
theorem reredosref03_Items.calls (P0_ : Nat → Prop) (A0 : Option Addr) (c0 : Nat) (l0 : List Int) (r1 : Int) (r2 : List Int) (w : World) (hs0 : Kd.V (Kd.int .i64) 3 w w.heap.size (fun k_ => P0_ k_) (.slice A0 l0.length c0) l0) (h : reredosref03_Items.f l0 = some (r1, r2)) :
    Calls Try.prog 22 #[.slice A0 l0.length c0] w fun e w' => ∃ v1_ : Value, e = .returned (.tuple #[.int .i64 r1, v1_]) ∧ Kd.V (Kd.int .i64) 3 w' w.heap.size (fun k_ => (P0_ k_ ∨ w.heap.size ≤ k_)) v1_ r2 ∧ Below w.heap.size w w' := by
  have HO0 := Aside0.mk (show Kd.V (Kd.int .i64) 3 w w.heap.size (fun k_ => (P0_ k_ ∨ w.heap.size ≤ k_)) (.slice A0 l0.length c0) l0 from Kd.V_mono hs0 (fun k_ hk => .inl hk))
  have HB := Aside0.mk (Below.refl w.heap.size w)
  have H : (if (l0.length : Int) = 0 then (some (1, ([] : List Int))) else (if 0 < (l0.length : Int) then (if 1 ≤ (l0.length : Int) then (some (rd l0 0, (l0.drop 1))) else (none)) else (none))) = some (r1, r2) := h
  clear h
  by_cases c2 : (l0.length : Int) = 0
  · rw [if_pos c2] at H
    have c2b0 : ((l0.length : Int) == 0) = true := beq_iff_eq.mpr c2
    have c2b1 : ((l0.length : Int) != 0) = false := bne_eq_false_iff_eq.mpr c2
    clear c2
    simp only [Option.some.injEq, Prod.mk.injEq] at H
    obtain ⟨rfl, rfl⟩ := H
    go_enter Try.func22, Try.ntmps22
    go_wp2
    repeat (go_quiet (fail); try go_wp2)
    go_ret2
    exact ⟨_, by first | rfl | (simp [errW_none, errW_some] <;> rfl) | (simp [*, errW_none, errW_some] <;> rfl), (Kd.V_nil _ _ _ _ _), by repeat (first | (with_reducible first | exact HB.out | apply below_alloc | apply pw_below_drewN | apply below_drew1) | exact HB.out)⟩
  · rw [if_neg c2] at H
    have c2b0 : ((l0.length : Int) == 0) = false := beq_eq_false_iff_ne.mpr c2
    have c2b1 : ((l0.length : Int) != 0) = true := bne_iff_ne.mpr c2
    have c2b2 : ¬ (l0 = []) := fun h_ => c2 (by rw [h_]; rfl)
    by_cases c3 : 0 < (l0.length : Int)
    · rw [if_pos c3] at H
      have c3b0 : decide (0 < (l0.length : Int)) = true := decide_eq_true c3
      have c3b1 : decide (0 < l0.length) = true := decide_eq_true (by omega)
      clear c3
      by_cases c4 : 1 ≤ (l0.length : Int)
      · rw [if_pos c4] at H
        have c4b0 := eq_true c4
        have c4b1 : decide (1 ≤ (l0.length : Int)) = true := decide_eq_true c4
        clear c4
        obtain ⟨y103, hy103⟩ : ∃ y_ : List Int, y_ = (l0.drop 1) := ⟨_, rfl⟩
        replace H : (some (rd l0 0, y103)) = some (r1, r2) := by first | (rw [hy103]; with_reducible exact H) | (have H2_ := (Option.bind_some _ _).symm.trans H; rw [hy103]; with_reducible exact H2_) | (have H2_ := (Option.bind_some _ _).symm.trans H; with_reducible exact H2_) | with_reducible exact H | (rw [hy103]; exact H) | exact H
        have Ny103 := Aside0.mk hy103
        clear hy103
        simp only [Option.some.injEq, Prod.mk.injEq] at H
        obtain ⟨rfl, rfl⟩ := H
        have p102 : 0 ≤ (0 : Int) := (by omega)
        have q102 : 0 < (l0.length : Int) := of_decide_eq_true (by first | (with_reducible assumption) | assumption)
        obtain ⟨ad102, e102, hx102_0⟩ := Kd.at_int (Kd.V_reads' HO0.out).2.2 0 p102 q102
        cases e102
        have qi102 : (0 < l0.length) = True := eq_true (by omega)
        (try rw [show ((0 : Int)).toNat = 0 from rfl] at hx102_0)
        (try rw [Addr.add_zero'] at hx102_0)
        replace p102 := eq_true p102
        replace q102 := eq_true q102
        have q5 : (1 : Int) ≤ ((l0.length : Int) : Int) := of_decide_eq_true (by first | (with_reducible assumption) | assumption)
        obtain ⟨i05, hi05, _, hsz5, _⟩ := info_parts info3
        have hroom5 : l0.length ≤ c0 := (Kd.V_reads' HO0.out).2.1
        have hC5 : Kd.F (Kd.int .i64) _ _ (some ad102) l0.length l0 := (Kd.V_at (base := w.heap.size) HO0.out).2.2
        have hcut5 := cut_from (P := Try.prog) 22 3 .i64 Try.underlying22 hi05 1 hsz5 (some ad102) l0.length c0 1 (by omega) q5
        have hr5 := Kd.F_cut (m := (1 : Int).toNat) (c := c0) hC5 (by omega) hroom5
        obtain ⟨A5, hA5⟩ : ∃ A1, A1 = (if c0 = (1 : Int).toNat then (some ad102) else ((some ad102) : Option Addr).map (·.add ((1 : Int).toNat * 1))) := ⟨_, rfl⟩
        obtain ⟨c5, hc5⟩ : ∃ c1, c1 = c0 - (1 : Int).toNat := ⟨_, rfl⟩
        have hy5 : y103.length = l0.length - (1 : Int).toNat := (by rw [Ny103.out, List.length_drop] <;> omega)
        rw [show (l0).drop (1 : Int).toNat = y103 from Ny103.out.symm] at hr5
        replace hr5 : Kd.F (Kd.int .i64) _ _ A5 y103.length y103 := (by rw [hA5]; exact hr5)
        rw [← hy5, ← hA5, ← hc5] at hcut5
        have HO107 := Aside0.mk (show Kd.V (Kd.int .i64) 3 _ w.heap.size _ (.slice A5 y103.length c5) y103 from Kd.V_mk (by rw [hy5, hc5]; exact Nat.sub_le_sub_right hroom5 _) hr5)
        have HC107 := Aside0.mk (show y103.length ≤ c5 from by rw [hy5, hc5]; exact Nat.sub_le_sub_right hroom5 _)
        clear hr5 hC5 hroom5 hi05 hsz5 hc5
        have KY5 := Aside0.mk hy5
        have KA5 := Aside0.mk hA5
        clear hy5 hA5
        replace q5 := eq_true q5
        go_enter Try.func22, Try.ntmps22
        go_wp2
        repeat (go_quiet (fail); try go_wp2)
        go_ret2
        exact ⟨_, by first | rfl | (simp [errW_none, errW_some] <;> rfl) | (simp [*, errW_none, errW_some] <;> rfl), by (with_reducible repeat (first | apply Kd.V_alloc | apply Kd.V_drewN | apply Kd.V_drew)); exact HO107.out, by repeat (first | (with_reducible first | exact HB.out | apply below_alloc | apply pw_below_drewN | apply below_drew1) | exact HB.out)⟩
      · rw [if_neg c4] at H
        exact absurd H (by simp)
    · rw [if_neg c3] at H
      exact absurd H (by simp)

end Go.Proofs.Ytjhdnaahmiiegaa.KM
