-- Written by wip/myprint.py, a program of this session over the kit's printer; Lean checks it.
import Derived.Test.YtdbheoffkfmcpaaDoorLTells0
namespace Go.Proofs.YtdbheoffkfmcpaaDoor.LTells
open Go.RowKit Go.Proofs.YtdbheoffkfmcpaaDoorW.PrintWords Go.Proofs.YtdbheoffkfmcpaaDoorW.PrintLast Go.Proofs.YtdbheoffkfmcpaaDoorW.PrintMore Go.Proofs.YtdbheoffkfmcpaaDoor.B Go.Proofs.YtdbheoffkfmcpaaDoor.K Go.Proofs.YtdbheoffkfmcpaaDoor.LS
attribute [local go_sem] max2_int min2_int max_two min_two max_three min_three max_four min_four   -- for this text's walks alone
set_option linter.unusedVariables false
set_option linter.unusedSimpArgs false

/-! ### reredoslaw02_WidthTells: function 5 -/
def reredoslaw02_WidthTells.j0 : Nat → ByteArray → Int → Int → List Int → Bool → Bool → Option (Bool)
  | 0, _, _, _, _, _, _ => none
  | k + 1, x0, x1, x2, x3, x9, x18 => if x18 = true then (some x9) else (if x9 = true then ((Hd.widthOf.f x0).bind fun t102 => ((K.reredosref02_Of.f k x0).bind fun t103 => (if t102 = t103 then ((K.width_Fits.f k x1 x2).bind fun t104 => ((K.reredosref02_Fits.f k x1 x2).bind fun t105 => (if (t104 == t105) = true then ((LS.width_Max.f x3).bind fun t106 => ((K.reredosref02_Max.f k x3).bind fun t107 => (if t106 = t107 then ((Hd.widthNext.f x2).bind fun t108 => ((K.reredosref02_Next.f x2).bind fun t109 => (some (t108 == t109)))) else (some false)))) else (some false)))) else (some false)))) else (some false))
def reredoslaw02_WidthTells.f (k : Nat) (a0 : ByteArray) (a1 : Int) (a2 : Int) (l3 : List Int) : Option (Bool) := (LS.reredoslaw02_shown.f k).bind fun t101 => (if (a0.size : Int) > 200 then (reredoslaw02_WidthTells.j0 k a0 a1 a2 l3 t101 true) else (reredoslaw02_WidthTells.j0 k a0 a1 a2 l3 t101 (decide ((l3.length : Int) > 100))))
theorem reredoslaw02_WidthTells.mono_l : ∀ k, (∀ y0 y1 y2 y3 y4 y5, LeO (reredoslaw02_WidthTells.j0 k y0 y1 y2 y3 y4 y5) (reredoslaw02_WidthTells.j0 (k + 1) y0 y1 y2 y3 y4 y5))
  | 0 => fun _ _ _ _ _ _ r h => by simp [reredoslaw02_WidthTells.j0] at h
  | k + 1 => by
    have ih0 := reredoslaw02_WidthTells.mono_l k
    · intro y0 y1 y2 y3 y4 y5
      unfold reredoslaw02_WidthTells.j0
      repeat' first
      | (with_reducible exact ih0 _ _ _ _ _ _)
      | (with_reducible exact K.reredosref02_Fits.mono _ _ _)
      | (with_reducible exact K.reredosref02_Max.mono _ _)
      | (with_reducible exact K.reredosref02_Of.mono _ _)
      | (with_reducible exact K.width_Fits.mono _ _ _)
      | (with_reducible exact LS.reredoslaw02_shown.mono _)
      | (with_reducible exact LeO.refl _)
      | (with_reducible exact LeO.none _)
      | (with_reducible refine LeO.ite ?_ ?_)
      | (with_reducible refine LeO.bind ?_ (fun _ => ?_))
      | exact ih0 _ _ _ _ _ _
      | exact K.reredosref02_Fits.mono _ _ _
      | exact K.reredosref02_Max.mono _ _
      | exact K.reredosref02_Of.mono _ _
      | exact K.width_Fits.mono _ _ _
      | exact LS.reredoslaw02_shown.mono _
      | exact LeO.none _
      | refine LeO.ite ?_ ?_
      | refine LeO.bind ?_ (fun _ => ?_)
theorem reredoslaw02_WidthTells.mono : ∀ a0 a1 a2 a3 k, LeO (reredoslaw02_WidthTells.f k a0 a1 a2 a3) (reredoslaw02_WidthTells.f (k + 1) a0 a1 a2 a3) := by
  intro a0 a1 a2 a3 k
  have ih0 := reredoslaw02_WidthTells.mono_l k
  unfold reredoslaw02_WidthTells.f
  repeat' first
      | (with_reducible exact ih0 _ _ _ _ _ _)
      | (with_reducible exact K.reredosref02_Fits.mono _ _ _)
      | (with_reducible exact K.reredosref02_Max.mono _ _)
      | (with_reducible exact K.reredosref02_Of.mono _ _)
      | (with_reducible exact K.width_Fits.mono _ _ _)
      | (with_reducible exact LS.reredoslaw02_shown.mono _)
      | (with_reducible exact LeO.refl _)
      | (with_reducible exact LeO.none _)
      | (with_reducible refine LeO.ite ?_ ?_)
      | (with_reducible refine LeO.bind ?_ (fun _ => ?_))
      | exact ih0 _ _ _ _ _ _
      | exact K.reredosref02_Fits.mono _ _ _
      | exact K.reredosref02_Max.mono _ _
      | exact K.reredosref02_Of.mono _ _
      | exact K.width_Fits.mono _ _ _
      | exact LS.reredoslaw02_shown.mono _
      | exact LeO.none _
      | refine LeO.ite ?_ ?_
      | refine LeO.bind ?_ (fun _ => ?_)
set_option maxHeartbeats 8000000 in
set_option maxRecDepth 100000 in
theorem reredoslaw02_WidthTells.calls (k : Nat) (a0 : ByteArray) (a1 : Int) (a2 : Int) (A3 : Option Addr) (c3 : Nat) (l3 : List Int) (r : Bool) (w : World) (hr3 : Kd.C (Kd.int .i64) w A3 l3.length l3) (hc3 : l3.length ≤ c3) (hG : Hd.GL w) (h : reredoslaw02_WidthTells.f k a0 a1 a2 l3 = some r) :
    Calls Tryd.prog 5 #[.string a0, .int .i64 a1, .int .i64 a2, .slice A3 l3.length c3] w fun e w' => e = .returned (.bool r) ∧ Below w.heap.size w w' := by
  have HR3 := Aside0.mk hr3
  have HC3 := Aside0.mk hc3
  clear hr3 hc3
  have HGL := Aside0.mk hG
  clear hG
  have HB := Aside0.mk (Below.refl w.heap.size w)
  have H : ((LS.reredoslaw02_shown.f k).bind fun t101 => (if (a0.size : Int) > 200 then (reredoslaw02_WidthTells.j0 k a0 a1 a2 l3 t101 true) else (reredoslaw02_WidthTells.j0 k a0 a1 a2 l3 t101 (decide ((l3.length : Int) > 100))))) = some r := h
  clear h
  replace H := Option.bind_eq_some_iff.mp H
  obtain ⟨t101, A50, H⟩ := H
  replace H : (if (a0.size : Int) > 200 then (reredoslaw02_WidthTells.j0 k a0 a1 a2 l3 t101 true) else (reredoslaw02_WidthTells.j0 k a0 a1 a2 l3 t101 (decide ((l3.length : Int) > 100)))) = some r := H
  have A5 := Aside0.mk A50
  clear A50
  have HC6 := Aside0.mk H
  clear H
  go_enter Tryd.func5, Tryd.ntmps5
  go_upto_region 2 with (first | ((with_reducible refine gate_callee (f := 13) rfl ?_); refine goesL_ (some 10) rfl rfl Tryd.func13 (by kernel_rfl) rfl #[] rfl (by (try simp only [List.map_toArray, List.map_cons, List.map_nil]); first | done | rfl | (simp only [List.length_drop, List.length_take]; rfl)) ?_; (with_reducible refine (LS.reredoslaw02_shown.calls k  t101 _ ?side1 A5.out).mono ?_); (case side1 => refine Hd.GL.below HGL.out ?_; repeat (first | (with_reducible first | exact HB.out | apply below_alloc | apply pw_below_drewN | apply below_drew1) | exact HB.out)); rintro e w7 ⟨rfl, hb⟩; refine ⟨_, rfl, ?_⟩; have n0_ := Aside0.mk (below_step (by repeat (first | (with_reducible first | exact HB.out | apply below_alloc | apply pw_below_drewN | apply below_drew1) | exact HB.out)) hb); clear HB; have HB := n0_; clear n0_; (try clear hb); (try clear hb2); (try clear hk); (try clear hi)))
  (try simp only [Act.put, List.setIfInBounds_toArray, List.set_cons_zero, List.set_cons_succ])
  go_cut [18] (fun v18 wc => ∃ (kq : Nat) (x18_5 : Bool), v18 = .bool x18_5 ∧ Aside0 (reredoslaw02_WidthTells.j0 kq a0 a1 a2 l3 t101 x18_5 = some r) ∧ Aside0 (kq ≤ k) ∧ Aside0 (Below w.heap.size w wc))
  case first =>
    have H := HC6.out
    clear HC6
    by_cases c8 : (a0.size : Int) > 200
    · rw [if_pos c8] at H
      have c8b0 : decide (200 < (a0.size : Int)) = true := decide_eq_true c8
      have c8b1 : decide (200 < a0.size) = true := decide_eq_true (by omega)
      clear c8
      (first | rw [c8b0] | (simp only [i64_w, i32_w]; rw [c8b0]) | skip)
      have H' := Aside0.mk H
      clear H
      go_wp2
      go_meet
      case rel => exact ⟨_, (true), (by first | rfl | (simp; done) | (simp [*]; done)), H', ⟨by first | omega | exact Nat.le_refl _⟩, ⟨by repeat (first | (with_reducible first | exact HB.out | apply below_alloc | apply pw_below_drewN | apply below_drew1) | exact HB.out)⟩⟩
    · rw [if_neg c8] at H
      have c8b0 : decide (200 < (a0.size : Int)) = false := decide_eq_false c8
      have c8b1 : decide (200 < a0.size) = false := decide_eq_false (by omega)
      clear c8
      (first | rw [c8b0] | (simp only [i64_w, i32_w]; rw [c8b0]) | skip)
      have H' := Aside0.mk H
      clear H
      go_wp2
      go_meet
      case rel => exact ⟨_, (decide ((l3.length : Int) > 100)), (by first | rfl | (simp; done) | (simp [*]; done)), H', ⟨by first | omega | exact Nat.le_refl _⟩, ⟨by repeat (first | (with_reducible first | exact HB.out | apply below_alloc | apply pw_below_drewN | apply below_drew1) | exact HB.out)⟩⟩
  case rest =>
    clear HC6
    try clear c1
    try clear p2
    try clear c3
    try clear c5
    try clear c8
    try clear c8b0
    try clear c8b1
    obtain ⟨kq, x18_5, rfl, HA, HJ5, HB⟩ := hcut
    cases kq with
    | zero => exact absurd HA.out (by simp [reredoslaw02_WidthTells.j0])
    | succ kj5 =>
      have H := HA.out
      clear HA
      simp only [reredoslaw02_WidthTells.j0] at H
      by_cases c9 : x18_5 = true
      · subst c9
        have H1 : (some t101) = some r := by rw [if_pos rfl] at H; exact H
        clear H
        have H := H1
        clear H1
        obtain rfl := Option.some.inj H
        go_wp2
        go_ret
        exact ⟨by first | rfl | (simp [errW_none, errW_some] <;> rfl) | (simp [*, errW_none, errW_some] <;> rfl), by repeat (first | (with_reducible first | exact HB.out | apply below_alloc | apply pw_below_drewN | apply below_drew1) | exact HB.out)⟩
      · replace c9 := Bool.eq_false_iff.mpr c9
        subst c9
        have H1 : (if t101 = true then ((Hd.widthOf.f a0).bind fun t102 => ((K.reredosref02_Of.f kj5 a0).bind fun t103 => (if t102 = t103 then ((K.width_Fits.f kj5 a1 a2).bind fun t104 => ((K.reredosref02_Fits.f kj5 a1 a2).bind fun t105 => (if (t104 == t105) = true then ((LS.width_Max.f l3).bind fun t106 => ((K.reredosref02_Max.f kj5 l3).bind fun t107 => (if t106 = t107 then ((Hd.widthNext.f a2).bind fun t108 => ((K.reredosref02_Next.f a2).bind fun t109 => (some (t108 == t109)))) else (some false)))) else (some false)))) else (some false)))) else (some false)) = some r := by rw [if_neg (show ¬ (false = true) by decide)] at H; exact H
        clear H
        have H := H1
        clear H1
        by_cases c10 : t101 = true
        · subst c10
          have H1 : ((Hd.widthOf.f a0).bind fun t102 => ((K.reredosref02_Of.f kj5 a0).bind fun t103 => (if t102 = t103 then ((K.width_Fits.f kj5 a1 a2).bind fun t104 => ((K.reredosref02_Fits.f kj5 a1 a2).bind fun t105 => (if (t104 == t105) = true then ((LS.width_Max.f l3).bind fun t106 => ((K.reredosref02_Max.f kj5 l3).bind fun t107 => (if t106 = t107 then ((Hd.widthNext.f a2).bind fun t108 => ((K.reredosref02_Next.f a2).bind fun t109 => (some (t108 == t109)))) else (some false)))) else (some false)))) else (some false)))) = some r := by rw [if_pos rfl] at H; exact H
          clear H
          have H := H1
          clear H1
          replace H := Option.bind_eq_some_iff.mp H
          obtain ⟨t102, A110, H⟩ := H
          replace H : ((K.reredosref02_Of.f kj5 a0).bind fun t103 => (if t102 = t103 then ((K.width_Fits.f kj5 a1 a2).bind fun t104 => ((K.reredosref02_Fits.f kj5 a1 a2).bind fun t105 => (if (t104 == t105) = true then ((LS.width_Max.f l3).bind fun t106 => ((K.reredosref02_Max.f kj5 l3).bind fun t107 => (if t106 = t107 then ((Hd.widthNext.f a2).bind fun t108 => ((K.reredosref02_Next.f a2).bind fun t109 => (some (t108 == t109)))) else (some false)))) else (some false)))) else (some false))) = some r := H
          have A11 := Aside0.mk A110
          clear A110
          replace H := Option.bind_eq_some_iff.mp H
          obtain ⟨t103, A120, H⟩ := H
          replace H : (if t102 = t103 then ((K.width_Fits.f kj5 a1 a2).bind fun t104 => ((K.reredosref02_Fits.f kj5 a1 a2).bind fun t105 => (if (t104 == t105) = true then ((LS.width_Max.f l3).bind fun t106 => ((K.reredosref02_Max.f kj5 l3).bind fun t107 => (if t106 = t107 then ((Hd.widthNext.f a2).bind fun t108 => ((K.reredosref02_Next.f a2).bind fun t109 => (some (t108 == t109)))) else (some false)))) else (some false)))) else (some false)) = some r := H
          have A12 := Aside0.mk A120
          clear A120
          by_cases c13 : t102 = t103
          · rw [if_pos c13] at H
            have c13b0 : (t102 == t103) = true := beq_iff_eq.mpr c13
            have c13b1 : (t102 != t103) = false := bne_eq_false_iff_eq.mpr c13
            clear c13
            replace H := Option.bind_eq_some_iff.mp H
            obtain ⟨t104, A140, H⟩ := H
            replace H : ((K.reredosref02_Fits.f kj5 a1 a2).bind fun t105 => (if (t104 == t105) = true then ((LS.width_Max.f l3).bind fun t106 => ((K.reredosref02_Max.f kj5 l3).bind fun t107 => (if t106 = t107 then ((Hd.widthNext.f a2).bind fun t108 => ((K.reredosref02_Next.f a2).bind fun t109 => (some (t108 == t109)))) else (some false)))) else (some false))) = some r := H
            have A14 := Aside0.mk A140
            clear A140
            replace H := Option.bind_eq_some_iff.mp H
            obtain ⟨t105, A150, H⟩ := H
            replace H : (if (t104 == t105) = true then ((LS.width_Max.f l3).bind fun t106 => ((K.reredosref02_Max.f kj5 l3).bind fun t107 => (if t106 = t107 then ((Hd.widthNext.f a2).bind fun t108 => ((K.reredosref02_Next.f a2).bind fun t109 => (some (t108 == t109)))) else (some false)))) else (some false)) = some r := H
            have A15 := Aside0.mk A150
            clear A150
            by_cases c16 : (t104 == t105) = true
            · rw [if_pos c16] at H
              have c16b0 : (t104 == t105) = true := c16
              (try (have c16b1 : decide (t104 = t105) = true := by simpa using c16))
              (try (have c16b2 : (t104 == t105) = true := by simpa using c16))
              clear c16
              replace H := Option.bind_eq_some_iff.mp H
              obtain ⟨t106, A170, H⟩ := H
              replace H : ((K.reredosref02_Max.f kj5 l3).bind fun t107 => (if t106 = t107 then ((Hd.widthNext.f a2).bind fun t108 => ((K.reredosref02_Next.f a2).bind fun t109 => (some (t108 == t109)))) else (some false))) = some r := H
              have A17 := Aside0.mk A170
              clear A170
              replace H := Option.bind_eq_some_iff.mp H
              obtain ⟨t107, A180, H⟩ := H
              replace H : (if t106 = t107 then ((Hd.widthNext.f a2).bind fun t108 => ((K.reredosref02_Next.f a2).bind fun t109 => (some (t108 == t109)))) else (some false)) = some r := H
              have A18 := Aside0.mk A180
              clear A180
              by_cases c19 : t106 = t107
              · rw [if_pos c19] at H
                have c19b0 : (t106 == t107) = true := beq_iff_eq.mpr c19
                have c19b1 : (t106 != t107) = false := bne_eq_false_iff_eq.mpr c19
                clear c19
                replace H := Option.bind_eq_some_iff.mp H
                obtain ⟨t108, A200, H⟩ := H
                replace H : ((K.reredosref02_Next.f a2).bind fun t109 => (some (t108 == t109))) = some r := H
                have A20 := Aside0.mk A200
                clear A200
                replace H := Option.bind_eq_some_iff.mp H
                obtain ⟨t109, A210, H⟩ := H
                replace H : (some (t108 == t109)) = some r := H
                have A21 := Aside0.mk A210
                clear A210
                obtain rfl := Option.some.inj H
                go_wp2_with (first | (go_at_call 14; (with_reducible refine (Hd.widthOf.calls a0 t102 _ ?side1 A11.out).mono ?_); (case side1 => refine Hd.GL.below HGL.out ?_; repeat (first | (with_reducible first | exact HB.out | apply below_alloc | apply pw_below_drewN | apply below_drew1) | exact HB.out)); rintro e w22 ⟨rfl, hb⟩; have n0_ := Aside0.mk (below_step (by repeat (first | (with_reducible first | exact HB.out | apply below_alloc | apply pw_below_drewN | apply below_drew1) | exact HB.out)) hb); clear HB; have HB := n0_; clear n0_; (try clear hb); (try clear hb2); (try clear hk); (try clear hi)) | (go_at_call 21; (with_reducible refine (K.reredosref02_Of.calls kj5 a0 t103 _ A12.out).mono ?_); rintro e w23 ⟨rfl, hb⟩; have n0_ := Aside0.mk (below_step (by repeat (first | (with_reducible first | exact HB.out | apply below_alloc | apply pw_below_drewN | apply below_drew1) | exact HB.out)) hb); clear HB; have HB := n0_; clear n0_; (try clear hb); (try clear hb2); (try clear hk); (try clear hi)) | (go_at_call 16; (with_reducible refine (K.width_Fits.calls kj5 a1 a2 t104 _ A14.out).mono ?_); rintro e w' ⟨rfl, ⟨nd, rfl⟩⟩) | (go_at_call 22; (with_reducible refine (K.reredosref02_Fits.calls kj5 a1 a2 t105 _ A15.out).mono ?_); rintro e w24 ⟨rfl, hb⟩; have n0_ := Aside0.mk (below_step (by repeat (first | (with_reducible first | exact HB.out | apply below_alloc | apply pw_below_drewN | apply below_drew1) | exact HB.out)) hb); clear HB; have HB := n0_; clear n0_; (try clear hb); (try clear hb2); (try clear hk); (try clear hi)) | (go_at_call 23; (with_reducible refine (LS.width_Max.calls _ _ l3 t106 _ ?side1 ?side2 A17.out).mono ?_); (case side1 => repeat (first | exact (Kd.C_below HR3.out HB.out) | (with_reducible refine Kd.C_alloc ?_ _) | (with_reducible refine Kd.C_drewN ?_ _) | (with_reducible refine Kd.C_drew ?_))); (case side2 => exact HC3.out); rintro e w' ⟨rfl, ⟨nd, rfl⟩⟩) | (go_at_call 24; (with_reducible refine (K.reredosref02_Max.calls kj5 _ _ l3 t107 _ ?side1 ?side2 A18.out).mono ?_); (case side1 => repeat (first | exact (Kd.C_below HR3.out (by repeat (first | (with_reducible first | exact HB.out | apply below_alloc | apply pw_below_drewN | apply below_drew1) | exact HB.out))) | (with_reducible refine Kd.C_alloc ?_ _) | (with_reducible refine Kd.C_drewN ?_ _) | (with_reducible refine Kd.C_drew ?_))); (case side2 => exact HC3.out); rintro e w' ⟨rfl, ⟨nd, rfl⟩⟩) | (go_at_call 25; (with_reducible refine (Hd.widthNext.calls a2 t108 _ A20.out).mono ?_); rintro e w25 ⟨rfl, hb⟩; have n0_ := Aside0.mk (below_step (by repeat (first | (with_reducible first | exact HB.out | apply below_alloc | apply pw_below_drewN | apply below_drew1) | exact HB.out)) hb); clear HB; have HB := n0_; clear n0_; (try clear hb); (try clear hb2); (try clear hk); (try clear hi)) | (go_at_call 26; (with_reducible refine (K.reredosref02_Next.calls a2 t109 _ A21.out).mono ?_); rintro e w' ⟨rfl, ⟨nd, rfl⟩⟩))
                go_ret
                exact ⟨by first | rfl | (simp [errW_none, errW_some] <;> rfl) | (simp [*, errW_none, errW_some] <;> rfl), by repeat (first | (with_reducible first | exact HB.out | apply below_alloc | apply pw_below_drewN | apply below_drew1) | exact HB.out)⟩
              · rw [if_neg c19] at H
                have c19b0 : (t106 == t107) = false := beq_eq_false_iff_ne.mpr c19
                have c19b1 : (t106 != t107) = true := bne_iff_ne.mpr c19
                obtain rfl := Option.some.inj H
                go_wp2_with (first | (go_at_call 14; (with_reducible refine (Hd.widthOf.calls a0 t102 _ ?side1 A11.out).mono ?_); (case side1 => refine Hd.GL.below HGL.out ?_; repeat (first | (with_reducible first | exact HB.out | apply below_alloc | apply pw_below_drewN | apply below_drew1) | exact HB.out)); rintro e w26 ⟨rfl, hb⟩; have n0_ := Aside0.mk (below_step (by repeat (first | (with_reducible first | exact HB.out | apply below_alloc | apply pw_below_drewN | apply below_drew1) | exact HB.out)) hb); clear HB; have HB := n0_; clear n0_; (try clear hb); (try clear hb2); (try clear hk); (try clear hi)) | (go_at_call 21; (with_reducible refine (K.reredosref02_Of.calls kj5 a0 t103 _ A12.out).mono ?_); rintro e w27 ⟨rfl, hb⟩; have n0_ := Aside0.mk (below_step (by repeat (first | (with_reducible first | exact HB.out | apply below_alloc | apply pw_below_drewN | apply below_drew1) | exact HB.out)) hb); clear HB; have HB := n0_; clear n0_; (try clear hb); (try clear hb2); (try clear hk); (try clear hi)) | (go_at_call 16; (with_reducible refine (K.width_Fits.calls kj5 a1 a2 t104 _ A14.out).mono ?_); rintro e w' ⟨rfl, ⟨nd, rfl⟩⟩) | (go_at_call 22; (with_reducible refine (K.reredosref02_Fits.calls kj5 a1 a2 t105 _ A15.out).mono ?_); rintro e w28 ⟨rfl, hb⟩; have n0_ := Aside0.mk (below_step (by repeat (first | (with_reducible first | exact HB.out | apply below_alloc | apply pw_below_drewN | apply below_drew1) | exact HB.out)) hb); clear HB; have HB := n0_; clear n0_; (try clear hb); (try clear hb2); (try clear hk); (try clear hi)) | (go_at_call 23; (with_reducible refine (LS.width_Max.calls _ _ l3 t106 _ ?side1 ?side2 A17.out).mono ?_); (case side1 => repeat (first | exact (Kd.C_below HR3.out HB.out) | (with_reducible refine Kd.C_alloc ?_ _) | (with_reducible refine Kd.C_drewN ?_ _) | (with_reducible refine Kd.C_drew ?_))); (case side2 => exact HC3.out); rintro e w' ⟨rfl, ⟨nd, rfl⟩⟩) | (go_at_call 24; (with_reducible refine (K.reredosref02_Max.calls kj5 _ _ l3 t107 _ ?side1 ?side2 A18.out).mono ?_); (case side1 => repeat (first | exact (Kd.C_below HR3.out (by repeat (first | (with_reducible first | exact HB.out | apply below_alloc | apply pw_below_drewN | apply below_drew1) | exact HB.out))) | (with_reducible refine Kd.C_alloc ?_ _) | (with_reducible refine Kd.C_drewN ?_ _) | (with_reducible refine Kd.C_drew ?_))); (case side2 => exact HC3.out); rintro e w' ⟨rfl, ⟨nd, rfl⟩⟩))
                go_ret
                exact ⟨by first | rfl | (simp [errW_none, errW_some] <;> rfl) | (simp [*, errW_none, errW_some] <;> rfl), by repeat (first | (with_reducible first | exact HB.out | apply below_alloc | apply pw_below_drewN | apply below_drew1) | exact HB.out)⟩
            · rw [if_neg c16] at H
              have c16b0 : (t104 == t105) = false := by simpa using c16
              (try (have c16b1 : decide (t104 = t105) = false := by simpa using c16))
              (try (have c16b2 : (t104 == t105) = false := by simpa using c16))
              (try (have c16b3 : ¬ (t104 = t105) := by simpa using c16))
              clear c16
              obtain rfl := Option.some.inj H
              go_wp2_with (first | (go_at_call 14; (with_reducible refine (Hd.widthOf.calls a0 t102 _ ?side1 A11.out).mono ?_); (case side1 => refine Hd.GL.below HGL.out ?_; repeat (first | (with_reducible first | exact HB.out | apply below_alloc | apply pw_below_drewN | apply below_drew1) | exact HB.out)); rintro e w29 ⟨rfl, hb⟩; have n0_ := Aside0.mk (below_step (by repeat (first | (with_reducible first | exact HB.out | apply below_alloc | apply pw_below_drewN | apply below_drew1) | exact HB.out)) hb); clear HB; have HB := n0_; clear n0_; (try clear hb); (try clear hb2); (try clear hk); (try clear hi)) | (go_at_call 21; (with_reducible refine (K.reredosref02_Of.calls kj5 a0 t103 _ A12.out).mono ?_); rintro e w30 ⟨rfl, hb⟩; have n0_ := Aside0.mk (below_step (by repeat (first | (with_reducible first | exact HB.out | apply below_alloc | apply pw_below_drewN | apply below_drew1) | exact HB.out)) hb); clear HB; have HB := n0_; clear n0_; (try clear hb); (try clear hb2); (try clear hk); (try clear hi)) | (go_at_call 16; (with_reducible refine (K.width_Fits.calls kj5 a1 a2 t104 _ A14.out).mono ?_); rintro e w' ⟨rfl, ⟨nd, rfl⟩⟩) | (go_at_call 22; (with_reducible refine (K.reredosref02_Fits.calls kj5 a1 a2 t105 _ A15.out).mono ?_); rintro e w31 ⟨rfl, hb⟩; have n0_ := Aside0.mk (below_step (by repeat (first | (with_reducible first | exact HB.out | apply below_alloc | apply pw_below_drewN | apply below_drew1) | exact HB.out)) hb); clear HB; have HB := n0_; clear n0_; (try clear hb); (try clear hb2); (try clear hk); (try clear hi)))
              go_ret
              exact ⟨by first | rfl | (simp [errW_none, errW_some] <;> rfl) | (simp [*, errW_none, errW_some] <;> rfl), by repeat (first | (with_reducible first | exact HB.out | apply below_alloc | apply pw_below_drewN | apply below_drew1) | exact HB.out)⟩
          · rw [if_neg c13] at H
            have c13b0 : (t102 == t103) = false := beq_eq_false_iff_ne.mpr c13
            have c13b1 : (t102 != t103) = true := bne_iff_ne.mpr c13
            obtain rfl := Option.some.inj H
            go_wp2_with (first | (go_at_call 14; (with_reducible refine (Hd.widthOf.calls a0 t102 _ ?side1 A11.out).mono ?_); (case side1 => refine Hd.GL.below HGL.out ?_; repeat (first | (with_reducible first | exact HB.out | apply below_alloc | apply pw_below_drewN | apply below_drew1) | exact HB.out)); rintro e w32 ⟨rfl, hb⟩; have n0_ := Aside0.mk (below_step (by repeat (first | (with_reducible first | exact HB.out | apply below_alloc | apply pw_below_drewN | apply below_drew1) | exact HB.out)) hb); clear HB; have HB := n0_; clear n0_; (try clear hb); (try clear hb2); (try clear hk); (try clear hi)) | (go_at_call 21; (with_reducible refine (K.reredosref02_Of.calls kj5 a0 t103 _ A12.out).mono ?_); rintro e w33 ⟨rfl, hb⟩; have n0_ := Aside0.mk (below_step (by repeat (first | (with_reducible first | exact HB.out | apply below_alloc | apply pw_below_drewN | apply below_drew1) | exact HB.out)) hb); clear HB; have HB := n0_; clear n0_; (try clear hb); (try clear hb2); (try clear hk); (try clear hi)))
            go_ret
            exact ⟨by first | rfl | (simp [errW_none, errW_some] <;> rfl) | (simp [*, errW_none, errW_some] <;> rfl), by repeat (first | (with_reducible first | exact HB.out | apply below_alloc | apply pw_below_drewN | apply below_drew1) | exact HB.out)⟩
        · replace c10 := Bool.eq_false_iff.mpr c10
          subst c10
          have H1 : (some false) = some r := by rw [if_neg (show ¬ (false = true) by decide)] at H; exact H
          clear H
          have H := H1
          clear H1
          obtain rfl := Option.some.inj H
          go_wp2
          go_ret
          exact ⟨by first | rfl | (simp [errW_none, errW_some] <;> rfl) | (simp [*, errW_none, errW_some] <;> rfl), by repeat (first | (with_reducible first | exact HB.out | apply below_alloc | apply pw_below_drewN | apply below_drew1) | exact HB.out)⟩

/-- THE ONE PURE STATEMENT of reredoslaw02_WidthTells: yours. -/
def reredoslaw02_WidthTells.Pure : Prop := ∀ (a0 : ByteArray) (a1 : Int) (a2 : Int) (l3 : List Int), a0.size ≤ 140737488351232 → (Lit.int .i64 a1).wf = true → (Lit.int .i64 a2).wf = true → l3.length ≤ maxLen → l3.length * 8 ≤ 140737488351232 → (∀ x ∈ l3, (Lit.int .i64 x).wf = true) → ∃ k, reredoslaw02_WidthTells.f k a0 a1 a2 l3 = some true
theorem reredoslaw02_WidthTells.walk (P : reredoslaw02_WidthTells.Pure) (a0 : ByteArray) (a1 : Int) (a2 : Int) (a3 : Option Addr) (len3 cap3 : Nat) (z3 : List Int) (w : World) (w0 : a0.size ≤ 140737488351232) (w1 : (Lit.int .i64 a1).wf = true) (w2 : (Lit.int .i64 a2).wf = true) (w3 : (a3 = none ∧ len3 = 0 ∧ cap3 = 0 ∧ z3 = []) ∨ ∃ x, a3 = some x ∧ len3 ≤ cap3 ∧ cap3 ≤ maxLen ∧ z3.length = cap3 ∧ (∀ i, i < z3.length → w.cell? (x.add i) = some (.int .i64 (z3.getD i 0))) ∧ ∀ n ∈ z3, (Lit.int .i64 n).wf = true) (y3 : len3 * 8 ≤ 140737488351232) (hG : Hd.GL w) :
    Calls Tryd.prog 5 #[.string a0, .int .i64 a1, .int .i64 a2, .slice a3 len3 cap3] w fun e w' => e = .returned (.bool true) ∧ Below w.heap.size w w' := by
  obtain ⟨l3, rfl, hr3, hm3, hw3, hc3⟩ := ReadsInt.ofRowC w3
  obtain ⟨k, h⟩ := P a0 a1 a2 l3 w0 w1 w2 hm3 y3 hw3
  refine (reredoslaw02_WidthTells.calls k a0 a1 a2 _ _ l3 true w (Kd.C_of_reads (d := (0 : Int)) (h1 := fun _ => rfl) hr3) hc3 hG h).mono ?_
  rintro e w' ⟨rfl, hd⟩
  exact ⟨rfl, hd⟩

end Go.Proofs.YtdbheoffkfmcpaaDoor.LTells
