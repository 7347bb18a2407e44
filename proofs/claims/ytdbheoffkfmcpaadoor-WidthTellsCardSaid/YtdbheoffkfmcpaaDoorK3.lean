-- Written by wip/myprint.py, a program of this session over the kit's printer; Lean checks it.
import Derived.Test.YtdbheoffkfmcpaaDoorK0
namespace Go.Proofs.YtdbheoffkfmcpaaDoor.K
open Go.RowKit Go.Proofs.YtdbheoffkfmcpaaDoorW.PrintWords Go.Proofs.YtdbheoffkfmcpaaDoorW.PrintLast Go.Proofs.YtdbheoffkfmcpaaDoorW.PrintMore Go.Proofs.YtdbheoffkfmcpaaDoor.B
attribute [local go_sem] max2_int min2_int max_two min_two max_three min_three max_four min_four   -- for this text's walks alone
set_option linter.unusedVariables false
set_option linter.unusedSimpArgs false

/-! ### width_Fits: function 16 -/
def width_Fits.j0 : Nat → Int → Int → Int → Bool → Option (Bool)
  | 0, _, _, _, _ => none
  | k + 1, x0, x1, x6, x7 => if x7 = true then (some true) else (if x6 = 8 then (if 0 ≤ (wrap64 (x1 - 1)) then (if x0 ≥ (wrap64 (-(shl .i64 1 (wrap64 (x1 - 1))))) then (some (decide (x0 < (shl .i64 1 (wrap64 (x1 - 1)))))) else (some false)) else (none)) else (if x6 = 16 then (if 0 ≤ (wrap64 (x1 - 1)) then (if x0 ≥ (wrap64 (-(shl .i64 1 (wrap64 (x1 - 1))))) then (some (decide (x0 < (shl .i64 1 (wrap64 (x1 - 1)))))) else (some false)) else (none)) else (if x6 = 32 then (if 0 ≤ (wrap64 (x1 - 1)) then (if x0 ≥ (wrap64 (-(shl .i64 1 (wrap64 (x1 - 1))))) then (some (decide (x0 < (shl .i64 1 (wrap64 (x1 - 1)))))) else (some false)) else (none)) else (some false))))
def width_Fits.f (k : Nat) (a0 : Int) (a1 : Int) : Option (Bool) := if a1 = 64 then (width_Fits.j0 k a0 a1 a1 (a1 == 64)) else (width_Fits.j0 k a0 a1 a1 (a1 == 128))
theorem width_Fits.mono_l : ∀ k, (∀ y0 y1 y2 y3, LeO (width_Fits.j0 k y0 y1 y2 y3) (width_Fits.j0 (k + 1) y0 y1 y2 y3))
  | 0 => fun _ _ _ _ r h => by simp [width_Fits.j0] at h
  | k + 1 => by
    have ih0 := width_Fits.mono_l k
    · intro y0 y1 y2 y3
      unfold width_Fits.j0
      repeat' first
      | (with_reducible exact ih0 _ _ _ _)
      | (with_reducible exact LeO.refl _)
      | (with_reducible exact LeO.none _)
      | (with_reducible refine LeO.ite ?_ ?_)
      | (with_reducible refine LeO.bind ?_ (fun _ => ?_))
      | exact ih0 _ _ _ _
      | exact LeO.none _
      | refine LeO.ite ?_ ?_
      | refine LeO.bind ?_ (fun _ => ?_)
theorem width_Fits.mono : ∀ a0 a1 k, LeO (width_Fits.f k a0 a1) (width_Fits.f (k + 1) a0 a1) := by
  intro a0 a1 k
  have ih0 := width_Fits.mono_l k
  unfold width_Fits.f
  repeat' first
      | (with_reducible exact ih0 _ _ _ _)
      | (with_reducible exact LeO.refl _)
      | (with_reducible exact LeO.none _)
      | (with_reducible refine LeO.ite ?_ ?_)
      | (with_reducible refine LeO.bind ?_ (fun _ => ?_))
      | exact ih0 _ _ _ _
      | exact LeO.none _
      | refine LeO.ite ?_ ?_
      | refine LeO.bind ?_ (fun _ => ?_)
set_option maxHeartbeats 8000000 in
set_option maxRecDepth 100000 in
theorem width_Fits.calls (k : Nat) (a0 : Int) (a1 : Int) (r : Bool) (w : World) (h : width_Fits.f k a0 a1 = some r) :
    Calls Tryd.prog 16 #[.int .i64 a0, .int .i64 a1] w fun e w' => e = .returned (.bool r) ∧ Drawn0 w w' := by
  have H : (if a1 = 64 then (width_Fits.j0 k a0 a1 a1 (a1 == 64)) else (width_Fits.j0 k a0 a1 a1 (a1 == 128))) = some r := h
  clear h
  have HC3 := Aside0.mk H
  clear H
  go_enter Tryd.func16, Tryd.ntmps16
  go_upto_if 7 with (fail)
  go_cut [7] (fun v7 wc => ∃ (kq : Nat) (x7_2 : Bool), v7 = .bool x7_2 ∧ Aside0 (width_Fits.j0 kq a0 a1 a1 x7_2 = some r) ∧ Aside0 (kq ≤ k) ∧ Drawn0 w wc)
  case first =>
    have H := HC3.out
    clear HC3
    by_cases c4 : a1 = 64
    · rw [if_pos c4] at H
      have c4b0 : (a1 == 64) = true := beq_iff_eq.mpr c4
      have c4b1 : (a1 != 64) = false := bne_eq_false_iff_eq.mpr c4
      clear c4
      (first | rw [c4b0] | (simp only [i64_w, i32_w]; rw [c4b0]) | skip)
      have H' := Aside0.mk H
      clear H
      go_wp2
      go_meet
      case rel => exact ⟨_, ((a1 == 64)), (by first | rfl | (simp; done) | (simp [*]; done)), H', ⟨by first | omega | exact Nat.le_refl _⟩, by repeat (first | exact Drawn0.refl _ | apply Drawn0.step)⟩
    · rw [if_neg c4] at H
      have c4b0 : (a1 == 64) = false := beq_eq_false_iff_ne.mpr c4
      have c4b1 : (a1 != 64) = true := bne_iff_ne.mpr c4
      (first | rw [c4b0] | (simp only [i64_w, i32_w]; rw [c4b0]) | skip)
      have H' := Aside0.mk H
      clear H
      go_wp2
      go_meet
      case rel => exact ⟨_, ((a1 == 128)), (by first | rfl | (simp; done) | (simp [*]; done)), H', ⟨by first | omega | exact Nat.le_refl _⟩, by repeat (first | exact Drawn0.refl _ | apply Drawn0.step)⟩
  case rest =>
    clear HC3
    try clear c1
    try clear p2
    try clear c4
    try clear c4b0
    try clear c4b1
    obtain ⟨kq, x7_2, rfl, HA, HJ2, ⟨mc2, rfl⟩⟩ := hcut
    cases kq with
    | zero => exact absurd HA.out (by simp [width_Fits.j0])
    | succ kj2 =>
      have H := HA.out
      clear HA
      simp only [width_Fits.j0] at H
      by_cases c5 : x7_2 = true
      · subst c5
        have H1 : (some true) = some r := by rw [if_pos rfl] at H; exact H
        clear H
        have H := H1
        clear H1
        obtain rfl := Option.some.inj H
        go_wp2
        go_ret
        exact ⟨by first | rfl | (simp; done) | (simp [*]; done), by repeat (first | exact Drawn0.refl _ | apply Drawn0.step)⟩
      · replace c5 := Bool.eq_false_iff.mpr c5
        subst c5
        have H1 : (if a1 = 8 then (if 0 ≤ (wrap64 (a1 - 1)) then (if a0 ≥ (wrap64 (-(shl .i64 1 (wrap64 (a1 - 1))))) then (some (decide (a0 < (shl .i64 1 (wrap64 (a1 - 1)))))) else (some false)) else (none)) else (if a1 = 16 then (if 0 ≤ (wrap64 (a1 - 1)) then (if a0 ≥ (wrap64 (-(shl .i64 1 (wrap64 (a1 - 1))))) then (some (decide (a0 < (shl .i64 1 (wrap64 (a1 - 1)))))) else (some false)) else (none)) else (if a1 = 32 then (if 0 ≤ (wrap64 (a1 - 1)) then (if a0 ≥ (wrap64 (-(shl .i64 1 (wrap64 (a1 - 1))))) then (some (decide (a0 < (shl .i64 1 (wrap64 (a1 - 1)))))) else (some false)) else (none)) else (some false)))) = some r := by rw [if_neg (show ¬ (false = true) by decide)] at H; exact H
        clear H
        have H := H1
        clear H1
        by_cases c6 : a1 = 8
        · rw [if_pos c6] at H
          have c6b0 : (a1 == 8) = true := beq_iff_eq.mpr c6
          have c6b1 : (a1 != 8) = false := bne_eq_false_iff_eq.mpr c6
          clear c6
          obtain ⟨ji7, hji7⟩ : ∃ j_ : Int, (wrap64 (a1 - 1)) = j_ := ⟨_, rfl⟩
          replace H : (if 0 ≤ (ji7) then (if a0 ≥ (wrap64 (-(shl .i64 1 (ji7)))) then (some (decide (a0 < (shl .i64 1 (ji7))))) else (some false)) else (none)) = some r := by first | (rw [hji7] at H; exact H) | (simp only [hji7] at H ⊢; exact H)
          have hji7w : (IntKind.i64.wrap (a1 - 1)) = ji7 := (i64_w _).trans hji7
          by_cases c8 : 0 ≤ (ji7)
          · rw [if_pos c8] at H
            have c8b0 := eq_true c8
            have c8b1 : decide (0 ≤ (ji7)) = true := decide_eq_true c8
            clear c8
            obtain ⟨ji9, hji9⟩ : ∃ j_ : Int, (shl .i64 1 (ji7)) = j_ := ⟨_, rfl⟩
            replace H : (if a0 ≥ (wrap64 (-(ji9))) then (some (decide (a0 < (ji9)))) else (some false)) = some r := by first | (rw [hji9] at H; exact H) | (simp only [hji9] at H ⊢; exact H)
            have hji9_ : (IntKind.i64.wrap (1 * 2 ^ min (ji7).toNat 64)) = ji9 := hji9
            have hji9z : (ji7) ≤ 64 → (IntKind.i64.wrap (1 * 2 ^ (ji7).toNat)) = ji9 := shl_small hji9
            have hji9u : (IntKind.i64.wrap (2 ^ min (ji7).toNat 64)) = ji9 := by have h_ := hji9_; rw [Int.one_mul] at h_; exact h_
            have hji9v : (ji7) ≤ 64 → (IntKind.i64.wrap (2 ^ (ji7).toNat)) = ji9 := fun hle_ => by have h_ := hji9z hle_; rw [Int.one_mul] at h_; exact h_
            have hji9y : (wrap64 (1 * 2 ^ min (ji7).toNat 64)) = ji9 := (i64_w _).symm.trans hji9_
            have hji9x : (ji7) ≤ 64 → (wrap64 (1 * 2 ^ (ji7).toNat)) = ji9 := fun h_ => (i64_w _).symm.trans (hji9z h_)
            by_cases c10 : a0 ≥ (wrap64 (-(ji9)))
            · rw [if_pos c10] at H
              have c10b0 : decide ((wrap64 (-(ji9))) ≤ a0) = true := decide_eq_true c10
              clear c10
              obtain rfl := Option.some.inj H
              go_wp2
              go_ret
              exact ⟨by first | rfl | (simp; done) | (simp only [← hji7, ← hji9] <;> (first | rfl | simp)) | (simp [*]; done), by repeat (first | exact Drawn0.refl _ | apply Drawn0.step)⟩
            · rw [if_neg c10] at H
              have c10b0 : decide ((wrap64 (-(ji9))) ≤ a0) = false := decide_eq_false c10
              clear c10
              obtain rfl := Option.some.inj H
              go_wp2
              go_ret
              exact ⟨by first | rfl | (simp; done) | (simp only [← hji7, ← hji9] <;> (first | rfl | simp)) | (simp [*]; done), by repeat (first | exact Drawn0.refl _ | apply Drawn0.step)⟩
          · rw [if_neg c8] at H
            exact absurd H (by simp)
        · rw [if_neg c6] at H
          have c6b0 : (a1 == 8) = false := beq_eq_false_iff_ne.mpr c6
          have c6b1 : (a1 != 8) = true := bne_iff_ne.mpr c6
          by_cases c11 : a1 = 16
          · rw [if_pos c11] at H
            have c11b0 : (a1 == 16) = true := beq_iff_eq.mpr c11
            have c11b1 : (a1 != 16) = false := bne_eq_false_iff_eq.mpr c11
            clear c11
            obtain ⟨ji12, hji12⟩ : ∃ j_ : Int, (wrap64 (a1 - 1)) = j_ := ⟨_, rfl⟩
            replace H : (if 0 ≤ (ji12) then (if a0 ≥ (wrap64 (-(shl .i64 1 (ji12)))) then (some (decide (a0 < (shl .i64 1 (ji12))))) else (some false)) else (none)) = some r := by first | (rw [hji12] at H; exact H) | (simp only [hji12] at H ⊢; exact H)
            have hji12w : (IntKind.i64.wrap (a1 - 1)) = ji12 := (i64_w _).trans hji12
            by_cases c13 : 0 ≤ (ji12)
            · rw [if_pos c13] at H
              have c13b0 := eq_true c13
              have c13b1 : decide (0 ≤ (ji12)) = true := decide_eq_true c13
              clear c13
              obtain ⟨ji14, hji14⟩ : ∃ j_ : Int, (shl .i64 1 (ji12)) = j_ := ⟨_, rfl⟩
              replace H : (if a0 ≥ (wrap64 (-(ji14))) then (some (decide (a0 < (ji14)))) else (some false)) = some r := by first | (rw [hji14] at H; exact H) | (simp only [hji14] at H ⊢; exact H)
              have hji14_ : (IntKind.i64.wrap (1 * 2 ^ min (ji12).toNat 64)) = ji14 := hji14
              have hji14z : (ji12) ≤ 64 → (IntKind.i64.wrap (1 * 2 ^ (ji12).toNat)) = ji14 := shl_small hji14
              have hji14u : (IntKind.i64.wrap (2 ^ min (ji12).toNat 64)) = ji14 := by have h_ := hji14_; rw [Int.one_mul] at h_; exact h_
              have hji14v : (ji12) ≤ 64 → (IntKind.i64.wrap (2 ^ (ji12).toNat)) = ji14 := fun hle_ => by have h_ := hji14z hle_; rw [Int.one_mul] at h_; exact h_
              have hji14y : (wrap64 (1 * 2 ^ min (ji12).toNat 64)) = ji14 := (i64_w _).symm.trans hji14_
              have hji14x : (ji12) ≤ 64 → (wrap64 (1 * 2 ^ (ji12).toNat)) = ji14 := fun h_ => (i64_w _).symm.trans (hji14z h_)
              by_cases c15 : a0 ≥ (wrap64 (-(ji14)))
              · rw [if_pos c15] at H
                have c15b0 : decide ((wrap64 (-(ji14))) ≤ a0) = true := decide_eq_true c15
                clear c15
                obtain rfl := Option.some.inj H
                go_wp2
                go_ret
                exact ⟨by first | rfl | (simp; done) | (simp only [← hji12, ← hji14] <;> (first | rfl | simp)) | (simp [*]; done), by repeat (first | exact Drawn0.refl _ | apply Drawn0.step)⟩
              · rw [if_neg c15] at H
                have c15b0 : decide ((wrap64 (-(ji14))) ≤ a0) = false := decide_eq_false c15
                clear c15
                obtain rfl := Option.some.inj H
                go_wp2
                go_ret
                exact ⟨by first | rfl | (simp; done) | (simp only [← hji12, ← hji14] <;> (first | rfl | simp)) | (simp [*]; done), by repeat (first | exact Drawn0.refl _ | apply Drawn0.step)⟩
            · rw [if_neg c13] at H
              exact absurd H (by simp)
          · rw [if_neg c11] at H
            have c11b0 : (a1 == 16) = false := beq_eq_false_iff_ne.mpr c11
            have c11b1 : (a1 != 16) = true := bne_iff_ne.mpr c11
            by_cases c16 : a1 = 32
            · rw [if_pos c16] at H
              have c16b0 : (a1 == 32) = true := beq_iff_eq.mpr c16
              have c16b1 : (a1 != 32) = false := bne_eq_false_iff_eq.mpr c16
              clear c16
              obtain ⟨ji17, hji17⟩ : ∃ j_ : Int, (wrap64 (a1 - 1)) = j_ := ⟨_, rfl⟩
              replace H : (if 0 ≤ (ji17) then (if a0 ≥ (wrap64 (-(shl .i64 1 (ji17)))) then (some (decide (a0 < (shl .i64 1 (ji17))))) else (some false)) else (none)) = some r := by first | (rw [hji17] at H; exact H) | (simp only [hji17] at H ⊢; exact H)
              have hji17w : (IntKind.i64.wrap (a1 - 1)) = ji17 := (i64_w _).trans hji17
              by_cases c18 : 0 ≤ (ji17)
              · rw [if_pos c18] at H
                have c18b0 := eq_true c18
                have c18b1 : decide (0 ≤ (ji17)) = true := decide_eq_true c18
                clear c18
                obtain ⟨ji19, hji19⟩ : ∃ j_ : Int, (shl .i64 1 (ji17)) = j_ := ⟨_, rfl⟩
                replace H : (if a0 ≥ (wrap64 (-(ji19))) then (some (decide (a0 < (ji19)))) else (some false)) = some r := by first | (rw [hji19] at H; exact H) | (simp only [hji19] at H ⊢; exact H)
                have hji19_ : (IntKind.i64.wrap (1 * 2 ^ min (ji17).toNat 64)) = ji19 := hji19
                have hji19z : (ji17) ≤ 64 → (IntKind.i64.wrap (1 * 2 ^ (ji17).toNat)) = ji19 := shl_small hji19
                have hji19u : (IntKind.i64.wrap (2 ^ min (ji17).toNat 64)) = ji19 := by have h_ := hji19_; rw [Int.one_mul] at h_; exact h_
                have hji19v : (ji17) ≤ 64 → (IntKind.i64.wrap (2 ^ (ji17).toNat)) = ji19 := fun hle_ => by have h_ := hji19z hle_; rw [Int.one_mul] at h_; exact h_
                have hji19y : (wrap64 (1 * 2 ^ min (ji17).toNat 64)) = ji19 := (i64_w _).symm.trans hji19_
                have hji19x : (ji17) ≤ 64 → (wrap64 (1 * 2 ^ (ji17).toNat)) = ji19 := fun h_ => (i64_w _).symm.trans (hji19z h_)
                by_cases c20 : a0 ≥ (wrap64 (-(ji19)))
                · rw [if_pos c20] at H
                  have c20b0 : decide ((wrap64 (-(ji19))) ≤ a0) = true := decide_eq_true c20
                  clear c20
                  obtain rfl := Option.some.inj H
                  go_wp2
                  go_ret
                  exact ⟨by first | rfl | (simp; done) | (simp only [← hji17, ← hji19] <;> (first | rfl | simp)) | (simp [*]; done), by repeat (first | exact Drawn0.refl _ | apply Drawn0.step)⟩
                · rw [if_neg c20] at H
                  have c20b0 : decide ((wrap64 (-(ji19))) ≤ a0) = false := decide_eq_false c20
                  clear c20
                  obtain rfl := Option.some.inj H
                  go_wp2
                  go_ret
                  exact ⟨by first | rfl | (simp; done) | (simp only [← hji17, ← hji19] <;> (first | rfl | simp)) | (simp [*]; done), by repeat (first | exact Drawn0.refl _ | apply Drawn0.step)⟩
              · rw [if_neg c18] at H
                exact absurd H (by simp)
            · rw [if_neg c16] at H
              have c16b0 : (a1 == 32) = false := beq_eq_false_iff_ne.mpr c16
              have c16b1 : (a1 != 32) = true := bne_iff_ne.mpr c16
              obtain rfl := Option.some.inj H
              go_wp2
              go_ret
              exact ⟨by first | rfl | (simp; done) | (simp [*]; done), by repeat (first | exact Drawn0.refl _ | apply Drawn0.step)⟩

-- NOT PRINTED: function 50 (slices_Max_int_int)

-- NOT PRINTED: function 23 (width_Max)

/-! ### width_told: function 42 -/
def width_told.f (k : Nat) (a0 : Int) (a1 : Int) (a2 : Int) (a3 : Bool) (a4 : Int) : Option (Int × Bool) := if a3 = true then (some (0, false)) else ((width_Fits.f k a0 a4).bind fun t165 => (if t165 = true then ((width_Fits.f k a1 a4).bind fun t166 => (if t166 = true then ((width_Fits.f k a2 a4).bind fun t167 => (if t167 = true then (some (a2, true)) else (some (0, false)))) else (some (0, false)))) else (some (0, false))))
theorem width_told.mono : ∀ a0 a1 a2 a3 a4 k, LeO (width_told.f k a0 a1 a2 a3 a4) (width_told.f (k + 1) a0 a1 a2 a3 a4) := by
  intro a0 a1 a2 a3 a4 k
  unfold width_told.f
  repeat' first
      | (with_reducible exact width_Fits.mono _ _ _)
      | (with_reducible exact LeO.refl _)
      | (with_reducible exact LeO.none _)
      | (with_reducible refine LeO.ite ?_ ?_)
      | (with_reducible refine LeO.bind ?_ (fun _ => ?_))
      | exact width_Fits.mono _ _ _
      | exact LeO.none _
      | refine LeO.ite ?_ ?_
      | refine LeO.bind ?_ (fun _ => ?_)
set_option maxHeartbeats 8000000 in
set_option maxRecDepth 100000 in
theorem width_told.calls (k : Nat) (a0 : Int) (a1 : Int) (a2 : Int) (a3 : Bool) (a4 : Int) (r1 : Int) (r2 : Bool) (w : World) (h : width_told.f k a0 a1 a2 a3 a4 = some (r1, r2)) :
    Calls Tryd.prog 42 #[.int .i64 a0, .int .i64 a1, .int .i64 a2, .bool a3, .int .i64 a4] w fun e w' => e = .returned (.tuple #[.int .i64 r1, .bool r2]) ∧ Drawn0 w w' := by
  have H : (if a3 = true then (some (0, false)) else ((width_Fits.f k a0 a4).bind fun t165 => (if t165 = true then ((width_Fits.f k a1 a4).bind fun t166 => (if t166 = true then ((width_Fits.f k a2 a4).bind fun t167 => (if t167 = true then (some (a2, true)) else (some (0, false)))) else (some (0, false)))) else (some (0, false))))) = some (r1, r2) := h
  clear h
  by_cases c6 : a3 = true
  · subst c6
    have H1 : (some (0, false)) = some (r1, r2) := by rw [if_pos rfl] at H; exact H
    clear H
    have H := H1
    clear H1
    simp only [Option.some.injEq, Prod.mk.injEq] at H
    obtain ⟨rfl, rfl⟩ := H
    go_enter Tryd.func42, Tryd.ntmps42
    go_wp2
    go_ret2
    exact ⟨by first | rfl | (simp; done) | (simp [*]; done), by repeat (first | exact Drawn0.refl _ | apply Drawn0.step)⟩
  · replace c6 := Bool.eq_false_iff.mpr c6
    subst c6
    have H1 : ((width_Fits.f k a0 a4).bind fun t165 => (if t165 = true then ((width_Fits.f k a1 a4).bind fun t166 => (if t166 = true then ((width_Fits.f k a2 a4).bind fun t167 => (if t167 = true then (some (a2, true)) else (some (0, false)))) else (some (0, false)))) else (some (0, false)))) = some (r1, r2) := by rw [if_neg (show ¬ (false = true) by decide)] at H; exact H
    clear H
    have H := H1
    clear H1
    replace H := Option.bind_eq_some_iff.mp H
    obtain ⟨t165, A70, H⟩ := H
    replace H : (if t165 = true then ((width_Fits.f k a1 a4).bind fun t166 => (if t166 = true then ((width_Fits.f k a2 a4).bind fun t167 => (if t167 = true then (some (a2, true)) else (some (0, false)))) else (some (0, false)))) else (some (0, false))) = some (r1, r2) := H
    have A7 := Aside0.mk A70
    clear A70
    by_cases c8 : t165 = true
    · subst c8
      have H1 : ((width_Fits.f k a1 a4).bind fun t166 => (if t166 = true then ((width_Fits.f k a2 a4).bind fun t167 => (if t167 = true then (some (a2, true)) else (some (0, false)))) else (some (0, false)))) = some (r1, r2) := by rw [if_pos rfl] at H; exact H
      clear H
      have H := H1
      clear H1
      replace H := Option.bind_eq_some_iff.mp H
      obtain ⟨t166, A90, H⟩ := H
      replace H : (if t166 = true then ((width_Fits.f k a2 a4).bind fun t167 => (if t167 = true then (some (a2, true)) else (some (0, false)))) else (some (0, false))) = some (r1, r2) := H
      have A9 := Aside0.mk A90
      clear A90
      by_cases c10 : t166 = true
      · subst c10
        have H1 : ((width_Fits.f k a2 a4).bind fun t167 => (if t167 = true then (some (a2, true)) else (some (0, false)))) = some (r1, r2) := by rw [if_pos rfl] at H; exact H
        clear H
        have H := H1
        clear H1
        replace H := Option.bind_eq_some_iff.mp H
        obtain ⟨t167, A110, H⟩ := H
        replace H : (if t167 = true then (some (a2, true)) else (some (0, false))) = some (r1, r2) := H
        have A11 := Aside0.mk A110
        clear A110
        by_cases c12 : t167 = true
        · subst c12
          have H1 : (some (a2, true)) = some (r1, r2) := by rw [if_pos rfl] at H; exact H
          clear H
          have H := H1
          clear H1
          simp only [Option.some.injEq, Prod.mk.injEq] at H
          obtain ⟨rfl, rfl⟩ := H
          go_enter Tryd.func42, Tryd.ntmps42
          go_wp2_with (first | (go_at_call 16; (with_reducible refine (width_Fits.calls k a0 a4 true _ A7.out).mono ?_); rintro e w' ⟨rfl, ⟨nd, rfl⟩⟩) | (go_at_call 16; (with_reducible refine (width_Fits.calls k a1 a4 true _ A9.out).mono ?_); rintro e w' ⟨rfl, ⟨nd, rfl⟩⟩) | (go_at_call 16; (with_reducible refine (width_Fits.calls k a2 a4 true _ A11.out).mono ?_); rintro e w' ⟨rfl, ⟨nd, rfl⟩⟩))
          go_ret2
          exact ⟨by first | rfl | (simp; done) | (simp [*]; done), by repeat (first | exact Drawn0.refl _ | apply Drawn0.step)⟩
        · replace c12 := Bool.eq_false_iff.mpr c12
          subst c12
          have H1 : (some (0, false)) = some (r1, r2) := by rw [if_neg (show ¬ (false = true) by decide)] at H; exact H
          clear H
          have H := H1
          clear H1
          simp only [Option.some.injEq, Prod.mk.injEq] at H
          obtain ⟨rfl, rfl⟩ := H
          go_enter Tryd.func42, Tryd.ntmps42
          go_wp2_with (first | (go_at_call 16; (with_reducible refine (width_Fits.calls k a0 a4 true _ A7.out).mono ?_); rintro e w' ⟨rfl, ⟨nd, rfl⟩⟩) | (go_at_call 16; (with_reducible refine (width_Fits.calls k a1 a4 true _ A9.out).mono ?_); rintro e w' ⟨rfl, ⟨nd, rfl⟩⟩) | (go_at_call 16; (with_reducible refine (width_Fits.calls k a2 a4 false _ A11.out).mono ?_); rintro e w' ⟨rfl, ⟨nd, rfl⟩⟩))
          go_ret2
          exact ⟨by first | rfl | (simp; done) | (simp [*]; done), by repeat (first | exact Drawn0.refl _ | apply Drawn0.step)⟩
      · replace c10 := Bool.eq_false_iff.mpr c10
        subst c10
        have H1 : (some (0, false)) = some (r1, r2) := by rw [if_neg (show ¬ (false = true) by decide)] at H; exact H
        clear H
        have H := H1
        clear H1
        simp only [Option.some.injEq, Prod.mk.injEq] at H
        obtain ⟨rfl, rfl⟩ := H
        go_enter Tryd.func42, Tryd.ntmps42
        go_wp2_with (first | (go_at_call 16; (with_reducible refine (width_Fits.calls k a0 a4 true _ A7.out).mono ?_); rintro e w' ⟨rfl, ⟨nd, rfl⟩⟩) | (go_at_call 16; (with_reducible refine (width_Fits.calls k a1 a4 false _ A9.out).mono ?_); rintro e w' ⟨rfl, ⟨nd, rfl⟩⟩))
        go_ret2
        exact ⟨by first | rfl | (simp; done) | (simp [*]; done), by repeat (first | exact Drawn0.refl _ | apply Drawn0.step)⟩
    · replace c8 := Bool.eq_false_iff.mpr c8
      subst c8
      have H1 : (some (0, false)) = some (r1, r2) := by rw [if_neg (show ¬ (false = true) by decide)] at H; exact H
      clear H
      have H := H1
      clear H1
      simp only [Option.some.injEq, Prod.mk.injEq] at H
      obtain ⟨rfl, rfl⟩ := H
      go_enter Tryd.func42, Tryd.ntmps42
      go_wp2_with (first | (go_at_call 16; (with_reducible refine (width_Fits.calls k a0 a4 false _ A7.out).mono ?_); rintro e w' ⟨rfl, ⟨nd, rfl⟩⟩))
      go_ret2
      exact ⟨by first | rfl | (simp; done) | (simp [*]; done), by repeat (first | exact Drawn0.refl _ | apply Drawn0.step)⟩

/-! ### width_Add: function 17 -/
def width_Add.f (k : Nat) (a0 : Int) (a1 : Int) (a2 : Int) : Option (Int × Bool) := (width_told.f k a0 a1 (wrap64 (a0 + a1)) ((decide ((wrap64 (a0 + a1)) > a0)) != (decide (a1 > 0))) a2).bind fun bt168 => (some (bt168.1, bt168.2))
theorem width_Add.mono : ∀ a0 a1 a2 k, LeO (width_Add.f k a0 a1 a2) (width_Add.f (k + 1) a0 a1 a2) := by
  intro a0 a1 a2 k
  unfold width_Add.f
  repeat' first
      | (with_reducible exact width_told.mono _ _ _ _ _ _)
      | (with_reducible exact LeO.refl _)
      | (with_reducible exact LeO.none _)
      | (with_reducible refine LeO.ite ?_ ?_)
      | (with_reducible refine LeO.bind ?_ (fun _ => ?_))
      | exact width_told.mono _ _ _ _ _ _
      | exact LeO.none _
      | refine LeO.ite ?_ ?_
      | refine LeO.bind ?_ (fun _ => ?_)
set_option maxHeartbeats 8000000 in
set_option maxRecDepth 100000 in
theorem width_Add.calls (k : Nat) (a0 : Int) (a1 : Int) (a2 : Int) (r1 : Int) (r2 : Bool) (w : World) (h : width_Add.f k a0 a1 a2 = some (r1, r2)) :
    Calls Tryd.prog 17 #[.int .i64 a0, .int .i64 a1, .int .i64 a2] w fun e w' => e = .returned (.tuple #[.int .i64 r1, .bool r2]) ∧ Drawn0 w w' := by
  have H : ((width_told.f k a0 a1 (wrap64 (a0 + a1)) ((decide ((wrap64 (a0 + a1)) > a0)) != (decide (a1 > 0))) a2).bind fun bt168 => (some (bt168.1, bt168.2))) = some (r1, r2) := h
  clear h
  replace H := Option.bind_eq_some_iff.mp H
  obtain ⟨⟨t168, t169⟩, A40, H⟩ := H
  replace H : (some (t168, t169)) = some (r1, r2) := H
  have A4 := Aside0.mk A40
  clear A40
  simp only [Option.some.injEq, Prod.mk.injEq] at H
  obtain ⟨rfl, rfl⟩ := H
  go_enter Tryd.func17, Tryd.ntmps17
  go_wp2_with (first | ((with_reducible refine gate_callee (f := 42) rfl ?_); refine goesL_ (some 22) rfl rfl Tryd.func42 (by kernel_rfl) rfl #[.int .i64 a0, .int .i64 a1, .int .i64 (wrap64 (a0 + a1)), .bool ((decide ((wrap64 (a0 + a1)) > a0)) != (decide (a1 > 0))), .int .i64 a2] rfl (by (try simp only [List.map_toArray, List.map_cons, List.map_nil]); first | done | rfl | (simp only [List.length_drop, List.length_take]; rfl)) ?_; (with_reducible refine (width_told.calls k a0 a1 (wrap64 (a0 + a1)) ((decide ((wrap64 (a0 + a1)) > a0)) != (decide (a1 > 0))) a2 t168 t169 _ A4.out).mono ?_); rintro e w' ⟨rfl, ⟨nd, rfl⟩⟩; refine ⟨_, rfl, ?_⟩))
  go_ret2
  exact ⟨by first | rfl | (simp; done) | (simp [*]; done), by repeat (first | exact Drawn0.refl _ | apply Drawn0.step)⟩

/-! ### width_Sub: function 19 -/
def width_Sub.f (k : Nat) (a0 : Int) (a1 : Int) (a2 : Int) : Option (Int × Bool) := (width_told.f k a0 a1 (wrap64 (a0 - a1)) ((decide ((wrap64 (a0 - a1)) < a0)) != (decide (a1 > 0))) a2).bind fun bt170 => (some (bt170.1, bt170.2))
theorem width_Sub.mono : ∀ a0 a1 a2 k, LeO (width_Sub.f k a0 a1 a2) (width_Sub.f (k + 1) a0 a1 a2) := by
  intro a0 a1 a2 k
  unfold width_Sub.f
  repeat' first
      | (with_reducible exact width_told.mono _ _ _ _ _ _)
      | (with_reducible exact LeO.refl _)
      | (with_reducible exact LeO.none _)
      | (with_reducible refine LeO.ite ?_ ?_)
      | (with_reducible refine LeO.bind ?_ (fun _ => ?_))
      | exact width_told.mono _ _ _ _ _ _
      | exact LeO.none _
      | refine LeO.ite ?_ ?_
      | refine LeO.bind ?_ (fun _ => ?_)
set_option maxHeartbeats 8000000 in
set_option maxRecDepth 100000 in
theorem width_Sub.calls (k : Nat) (a0 : Int) (a1 : Int) (a2 : Int) (r1 : Int) (r2 : Bool) (w : World) (h : width_Sub.f k a0 a1 a2 = some (r1, r2)) :
    Calls Tryd.prog 19 #[.int .i64 a0, .int .i64 a1, .int .i64 a2] w fun e w' => e = .returned (.tuple #[.int .i64 r1, .bool r2]) ∧ Drawn0 w w' := by
  have H : ((width_told.f k a0 a1 (wrap64 (a0 - a1)) ((decide ((wrap64 (a0 - a1)) < a0)) != (decide (a1 > 0))) a2).bind fun bt170 => (some (bt170.1, bt170.2))) = some (r1, r2) := h
  clear h
  replace H := Option.bind_eq_some_iff.mp H
  obtain ⟨⟨t170, t171⟩, A40, H⟩ := H
  replace H : (some (t170, t171)) = some (r1, r2) := H
  have A4 := Aside0.mk A40
  clear A40
  simp only [Option.some.injEq, Prod.mk.injEq] at H
  obtain ⟨rfl, rfl⟩ := H
  go_enter Tryd.func19, Tryd.ntmps19
  go_wp2_with (first | ((with_reducible refine gate_callee (f := 42) rfl ?_); refine goesL_ (some 22) rfl rfl Tryd.func42 (by kernel_rfl) rfl #[.int .i64 a0, .int .i64 a1, .int .i64 (wrap64 (a0 - a1)), .bool ((decide ((wrap64 (a0 - a1)) < a0)) != (decide (a1 > 0))), .int .i64 a2] rfl (by (try simp only [List.map_toArray, List.map_cons, List.map_nil]); first | done | rfl | (simp only [List.length_drop, List.length_take]; rfl)) ?_; (with_reducible refine (width_told.calls k a0 a1 (wrap64 (a0 - a1)) ((decide ((wrap64 (a0 - a1)) < a0)) != (decide (a1 > 0))) a2 t170 t171 _ A4.out).mono ?_); rintro e w' ⟨rfl, ⟨nd, rfl⟩⟩; refine ⟨_, rfl, ?_⟩))
  go_ret2
  exact ⟨by first | rfl | (simp; done) | (simp [*]; done), by repeat (first | exact Drawn0.refl _ | apply Drawn0.step)⟩

/-! ### width_Mul: function 20 -/
def width_Mul.f (k : Nat) (a0 : Int) (a1 : Int) (a2 : Int) : Option (Int × Bool) := if a0 = 0 then ((width_told.f k a0 a1 (wrap64 (a0 * a1)) false a2).bind fun bt172 => (some (bt172.1, bt172.2))) else (if (wrap64 (Int.tdiv (wrap64 (a0 * a1)) a0)) = a1 then (if a0 = (-1) then ((width_told.f k a0 a1 (wrap64 (a0 * a1)) (a1 == (-9223372036854775808)) a2).bind fun bt174 => (some (bt174.1, bt174.2))) else ((width_told.f k a0 a1 (wrap64 (a0 * a1)) false a2).bind fun bt176 => (some (bt176.1, bt176.2)))) else ((width_told.f k a0 a1 (wrap64 (a0 * a1)) true a2).bind fun bt178 => (some (bt178.1, bt178.2))))
theorem width_Mul.mono : ∀ a0 a1 a2 k, LeO (width_Mul.f k a0 a1 a2) (width_Mul.f (k + 1) a0 a1 a2) := by
  intro a0 a1 a2 k
  unfold width_Mul.f
  repeat' first
      | (with_reducible exact width_told.mono _ _ _ _ _ _)
      | (with_reducible exact LeO.refl _)
      | (with_reducible exact LeO.none _)
      | (with_reducible refine LeO.ite ?_ ?_)
      | (with_reducible refine LeO.bind ?_ (fun _ => ?_))
      | exact width_told.mono _ _ _ _ _ _
      | exact LeO.none _
      | refine LeO.ite ?_ ?_
      | refine LeO.bind ?_ (fun _ => ?_)
set_option maxHeartbeats 8000000 in
set_option maxRecDepth 100000 in
theorem width_Mul.calls (k : Nat) (a0 : Int) (a1 : Int) (a2 : Int) (r1 : Int) (r2 : Bool) (w : World) (h : width_Mul.f k a0 a1 a2 = some (r1, r2)) :
    Calls Tryd.prog 20 #[.int .i64 a0, .int .i64 a1, .int .i64 a2] w fun e w' => e = .returned (.tuple #[.int .i64 r1, .bool r2]) ∧ Drawn0 w w' := by
  have H : (if a0 = 0 then ((width_told.f k a0 a1 (wrap64 (a0 * a1)) false a2).bind fun bt172 => (some (bt172.1, bt172.2))) else (if (wrap64 (Int.tdiv (wrap64 (a0 * a1)) a0)) = a1 then (if a0 = (-1) then ((width_told.f k a0 a1 (wrap64 (a0 * a1)) (a1 == (-9223372036854775808)) a2).bind fun bt174 => (some (bt174.1, bt174.2))) else ((width_told.f k a0 a1 (wrap64 (a0 * a1)) false a2).bind fun bt176 => (some (bt176.1, bt176.2)))) else ((width_told.f k a0 a1 (wrap64 (a0 * a1)) true a2).bind fun bt178 => (some (bt178.1, bt178.2))))) = some (r1, r2) := h
  clear h
  by_cases c4 : a0 = 0
  · rw [if_pos c4] at H
    have c4b0 : (a0 == 0) = true := beq_iff_eq.mpr c4
    have c4b1 : (a0 != 0) = false := bne_eq_false_iff_eq.mpr c4
    clear c4
    replace H := Option.bind_eq_some_iff.mp H
    obtain ⟨⟨t172, t173⟩, A50, H⟩ := H
    replace H : (some (t172, t173)) = some (r1, r2) := H
    have A5 := Aside0.mk A50
    clear A50
    simp only [Option.some.injEq, Prod.mk.injEq] at H
    obtain ⟨rfl, rfl⟩ := H
    go_enter Tryd.func20, Tryd.ntmps20
    go_wp2_with (first | ((with_reducible refine gate_callee (f := 42) rfl ?_); refine goesL_ (some 35) rfl rfl Tryd.func42 (by kernel_rfl) rfl #[.int .i64 a0, .int .i64 a1, .int .i64 (wrap64 (a0 * a1)), .bool false, .int .i64 a2] rfl (by (try simp only [List.map_toArray, List.map_cons, List.map_nil]); first | done | rfl | (simp only [List.length_drop, List.length_take]; rfl)) ?_; (with_reducible refine (width_told.calls k a0 a1 (wrap64 (a0 * a1)) false a2 t172 t173 _ A5.out).mono ?_); rintro e w' ⟨rfl, ⟨nd, rfl⟩⟩; refine ⟨_, rfl, ?_⟩))
    go_ret2
    exact ⟨by first | rfl | (simp; done) | (simp [*]; done), by repeat (first | exact Drawn0.refl _ | apply Drawn0.step)⟩
  · rw [if_neg c4] at H
    have c4b0 : (a0 == 0) = false := beq_eq_false_iff_ne.mpr c4
    have c4b1 : (a0 != 0) = true := bne_iff_ne.mpr c4
    by_cases c6 : (wrap64 (Int.tdiv (wrap64 (a0 * a1)) a0)) = a1
    · rw [if_pos c6] at H
      have c6b0 : ((wrap64 (Int.tdiv (wrap64 (a0 * a1)) a0)) == a1) = true := beq_iff_eq.mpr c6
      have c6b1 : ((wrap64 (Int.tdiv (wrap64 (a0 * a1)) a0)) != a1) = false := bne_eq_false_iff_eq.mpr c6
      clear c6
      by_cases c7 : a0 = (-1)
      · rw [if_pos c7] at H
        have c7b0 : (a0 == (-1)) = true := beq_iff_eq.mpr c7
        have c7b1 : (a0 != (-1)) = false := bne_eq_false_iff_eq.mpr c7
        clear c7
        replace H := Option.bind_eq_some_iff.mp H
        obtain ⟨⟨t174, t175⟩, A80, H⟩ := H
        replace H : (some (t174, t175)) = some (r1, r2) := H
        have A8 := Aside0.mk A80
        clear A80
        simp only [Option.some.injEq, Prod.mk.injEq] at H
        obtain ⟨rfl, rfl⟩ := H
        go_enter Tryd.func20, Tryd.ntmps20
        go_wp2_with (first | ((with_reducible refine gate_callee (f := 42) rfl ?_); refine goesL_ (some 35) rfl rfl Tryd.func42 (by kernel_rfl) rfl #[.int .i64 a0, .int .i64 a1, .int .i64 (wrap64 (a0 * a1)), .bool (a1 == (-9223372036854775808)), .int .i64 a2] rfl (by (try simp only [List.map_toArray, List.map_cons, List.map_nil]); first | done | rfl | (simp only [List.length_drop, List.length_take]; rfl)) ?_; (with_reducible refine (width_told.calls k a0 a1 (wrap64 (a0 * a1)) (a1 == (-9223372036854775808)) a2 t174 t175 _ A8.out).mono ?_); rintro e w' ⟨rfl, ⟨nd, rfl⟩⟩; refine ⟨_, rfl, ?_⟩))
        go_ret2
        exact ⟨by first | rfl | (simp; done) | (simp [*]; done), by repeat (first | exact Drawn0.refl _ | apply Drawn0.step)⟩
      · rw [if_neg c7] at H
        have c7b0 : (a0 == (-1)) = false := beq_eq_false_iff_ne.mpr c7
        have c7b1 : (a0 != (-1)) = true := bne_iff_ne.mpr c7
        replace H := Option.bind_eq_some_iff.mp H
        obtain ⟨⟨t176, t177⟩, A90, H⟩ := H
        replace H : (some (t176, t177)) = some (r1, r2) := H
        have A9 := Aside0.mk A90
        clear A90
        simp only [Option.some.injEq, Prod.mk.injEq] at H
        obtain ⟨rfl, rfl⟩ := H
        go_enter Tryd.func20, Tryd.ntmps20
        go_wp2_with (first | ((with_reducible refine gate_callee (f := 42) rfl ?_); refine goesL_ (some 35) rfl rfl Tryd.func42 (by kernel_rfl) rfl #[.int .i64 a0, .int .i64 a1, .int .i64 (wrap64 (a0 * a1)), .bool false, .int .i64 a2] rfl (by (try simp only [List.map_toArray, List.map_cons, List.map_nil]); first | done | rfl | (simp only [List.length_drop, List.length_take]; rfl)) ?_; (with_reducible refine (width_told.calls k a0 a1 (wrap64 (a0 * a1)) false a2 t176 t177 _ A9.out).mono ?_); rintro e w' ⟨rfl, ⟨nd, rfl⟩⟩; refine ⟨_, rfl, ?_⟩))
        go_ret2
        exact ⟨by first | rfl | (simp; done) | (simp [*]; done), by repeat (first | exact Drawn0.refl _ | apply Drawn0.step)⟩
    · rw [if_neg c6] at H
      have c6b0 : ((wrap64 (Int.tdiv (wrap64 (a0 * a1)) a0)) == a1) = false := beq_eq_false_iff_ne.mpr c6
      have c6b1 : ((wrap64 (Int.tdiv (wrap64 (a0 * a1)) a0)) != a1) = true := bne_iff_ne.mpr c6
      replace H := Option.bind_eq_some_iff.mp H
      obtain ⟨⟨t178, t179⟩, A100, H⟩ := H
      replace H : (some (t178, t179)) = some (r1, r2) := H
      have A10 := Aside0.mk A100
      clear A100
      simp only [Option.some.injEq, Prod.mk.injEq] at H
      obtain ⟨rfl, rfl⟩ := H
      go_enter Tryd.func20, Tryd.ntmps20
      go_wp2_with (first | ((with_reducible refine gate_callee (f := 42) rfl ?_); refine goesL_ (some 35) rfl rfl Tryd.func42 (by kernel_rfl) rfl #[.int .i64 a0, .int .i64 a1, .int .i64 (wrap64 (a0 * a1)), .bool true, .int .i64 a2] rfl (by (try simp only [List.map_toArray, List.map_cons, List.map_nil]); first | done | rfl | (simp only [List.length_drop, List.length_take]; rfl)) ?_; (with_reducible refine (width_told.calls k a0 a1 (wrap64 (a0 * a1)) true a2 t178 t179 _ A10.out).mono ?_); rintro e w' ⟨rfl, ⟨nd, rfl⟩⟩; refine ⟨_, rfl, ?_⟩))
      go_ret2
      exact ⟨by first | rfl | (simp; done) | (simp [*]; done), by repeat (first | exact Drawn0.refl _ | apply Drawn0.step)⟩

end Go.Proofs.YtdbheoffkfmcpaaDoor.K
