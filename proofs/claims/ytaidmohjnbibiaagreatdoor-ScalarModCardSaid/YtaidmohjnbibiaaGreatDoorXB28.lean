/- What the law leans on, part 29: declarations of several texts of ours, in their order. -/
import Derived.Test.YtaidmohjnbibiaaGreatDoorXB27
section
namespace Go.Proofs.YtaidmohjnbibiaaGreatDoor.LScalarMod
open Go.RowKit Go.Proofs.YtaidmohjnbibiaaGreatDoorW.PrintWords Go.Proofs.YtaidmohjnbibiaaGreatDoorW.PrintLast Go.Proofs.YtaidmohjnbibiaaGreatDoorW.PrintMore Go.Proofs.YtaidmohjnbibiaaGreatDoor.B Go.Proofs.YtaidmohjnbibiaaGreatDoor.K Go.Proofs.YtaidmohjnbibiaaGreatDoor.L Go.Proofs.YtaidmohjnbibiaaGreatDoor.M Go.Proofs.YtaidmohjnbibiaaGreatDoor.SC Go.Proofs.YtaidmohjnbibiaaGreatDoor.SL
attribute [local go_sem] max2_int min2_int max_two min_two max_three min_three max_four min_four
set_option linter.unusedVariables false
set_option linter.unusedSimpArgs false
/-! ### reredoslaw12_ScalarMod: function 4 -/
def reredoslaw12_ScalarMod.j0 : Nat → ByteArray → ByteArray → ByteArray → Bool → Bool → Option (Bool)
  | 0, _, _, _, _, _ => none
  | k + 1, x0, x1, x2, x7, x54 => if x54 = true then (some x7) else ((Hd.scalarDyad.f k (⟨#[43]⟩ : ByteArray) x0 x1).bind fun bt105 => ((Hd.scalarDyad.f k (⟨#[33]⟩ : ByteArray) bt105.1 x2).bind fun bt107 => ((Hd.scalarDyad.f k (⟨#[33]⟩ : ByteArray) x0 x2).bind fun bt109 => ((Hd.scalarDyad.f k (⟨#[33]⟩ : ByteArray) x1 x2).bind fun bt111 => ((Hd.scalarDyad.f k (⟨#[43]⟩ : ByteArray) bt109.1 bt111.1).bind fun bt113 => ((Hd.scalarDyad.f k (⟨#[33]⟩ : ByteArray) bt113.1 x2).bind fun bt115 => ((Hd.scalarDyad.f k (⟨#[33]⟩ : ByteArray) x2 x2).bind fun bt117 => (if x7 = true then (if bt105.2 = 0 then (if bt107.2 = 0 then (if bt113.2 = 0 then (if bt115.2 = 0 then (if bt107.1.toList = bt115.1.toList then (if bt117.2 = 0 then (some (bt117.1.toList == ([48] : List UInt8))) else (some false)) else (some false)) else (some false)) else (if bt117.2 = 0 then (some (bt117.1.toList == ([48] : List UInt8))) else (some false))) else (if bt117.2 = 0 then (some (bt117.1.toList == ([48] : List UInt8))) else (some false))) else (if bt117.2 = 0 then (some (bt117.1.toList == ([48] : List UInt8))) else (some false))) else (some false)))))))))
def reredoslaw12_ScalarMod.f (k : Nat) (a0 : ByteArray) (a1 : ByteArray) (a2 : ByteArray) : Option (Bool) := (SL.reredoslaw12_shown.f k).bind fun t101 => (if (a0.size : Int) > 200 then (reredoslaw12_ScalarMod.j0 k a0 a1 a2 t101 true) else (if (a1.size : Int) > 200 then (reredoslaw12_ScalarMod.j0 k a0 a1 a2 t101 true) else (if (a2.size : Int) > 200 then (reredoslaw12_ScalarMod.j0 k a0 a1 a2 t101 true) else ((Go.Proofs.YtaidmohjnbibiaaGreatDoor.K.num_May.f a0).bind fun t102 => (if t102 = true then ((Go.Proofs.YtaidmohjnbibiaaGreatDoor.K.num_May.f a1).bind fun t103 => (if t103 = true then ((Go.Proofs.YtaidmohjnbibiaaGreatDoor.K.num_May.f a2).bind fun t104 => (if t104 = true then (reredoslaw12_ScalarMod.j0 k a0 a1 a2 t101 (a2.toList == ([48] : List UInt8))) else (reredoslaw12_ScalarMod.j0 k a0 a1 a2 t101 true))) else (reredoslaw12_ScalarMod.j0 k a0 a1 a2 t101 true))) else (reredoslaw12_ScalarMod.j0 k a0 a1 a2 t101 true))))))
theorem reredoslaw12_ScalarMod.mono_l : ∀ k, (∀ y0 y1 y2 y3 y4, LeO (reredoslaw12_ScalarMod.j0 k y0 y1 y2 y3 y4) (reredoslaw12_ScalarMod.j0 (k + 1) y0 y1 y2 y3 y4))
  | 0 => fun _ _ _ _ _ r h => by simp [reredoslaw12_ScalarMod.j0] at h
  | k + 1 => by
    have ih0 := reredoslaw12_ScalarMod.mono_l k
    · intro y0 y1 y2 y3 y4
      unfold reredoslaw12_ScalarMod.j0
      repeat' first
      | (with_reducible exact ih0 _ _ _ _ _)
      | (with_reducible exact Hd.scalarDyad.mono _ _ _ _)
      | (with_reducible exact SL.reredoslaw12_shown.mono _)
      | (with_reducible exact LeO.refl _)
      | (with_reducible exact LeO.none _)
      | (with_reducible refine LeO.ite ?_ ?_)
      | (with_reducible refine LeO.bind ?_ (fun _ => ?_))
      | exact ih0 _ _ _ _ _
      | exact Hd.scalarDyad.mono _ _ _ _
      | exact SL.reredoslaw12_shown.mono _
      | exact LeO.none _
      | refine LeO.ite ?_ ?_
      | refine LeO.bind ?_ (fun _ => ?_)
theorem reredoslaw12_ScalarMod.mono : ∀ a0 a1 a2 k, LeO (reredoslaw12_ScalarMod.f k a0 a1 a2) (reredoslaw12_ScalarMod.f (k + 1) a0 a1 a2) := by
  intro a0 a1 a2 k
  have ih0 := reredoslaw12_ScalarMod.mono_l k
  unfold reredoslaw12_ScalarMod.f
  repeat' first
      | (with_reducible exact ih0 _ _ _ _ _)
      | (with_reducible exact Hd.scalarDyad.mono _ _ _ _)
      | (with_reducible exact SL.reredoslaw12_shown.mono _)
      | (with_reducible exact LeO.refl _)
      | (with_reducible exact LeO.none _)
      | (with_reducible refine LeO.ite ?_ ?_)
      | (with_reducible refine LeO.bind ?_ (fun _ => ?_))
      | exact ih0 _ _ _ _ _
      | exact Hd.scalarDyad.mono _ _ _ _
      | exact SL.reredoslaw12_shown.mono _
      | exact LeO.none _
      | refine LeO.ite ?_ ?_
      | refine LeO.bind ?_ (fun _ => ?_)
set_option maxHeartbeats 8000000 in
set_option maxRecDepth 100000 in
theorem reredoslaw12_ScalarMod.calls (k : Nat) (a0 : ByteArray) (a1 : ByteArray) (a2 : ByteArray) (r : Bool) (w : World) (hG : Hd.GL w) (h : reredoslaw12_ScalarMod.f k a0 a1 a2 = some r) :
    Calls Tryz.prog 4 #[.string a0, .string a1, .string a2] w fun e w' => e = .returned (.bool r) ∧ Below w.heap.size w w' := by
  have HGL := Aside0.mk hG
  clear hG
  have HB := Aside0.mk (Below.refl w.heap.size w)
  have H : ((SL.reredoslaw12_shown.f k).bind fun t101 => (if (a0.size : Int) > 200 then (reredoslaw12_ScalarMod.j0 k a0 a1 a2 t101 true) else (if (a1.size : Int) > 200 then (reredoslaw12_ScalarMod.j0 k a0 a1 a2 t101 true) else (if (a2.size : Int) > 200 then (reredoslaw12_ScalarMod.j0 k a0 a1 a2 t101 true) else ((Go.Proofs.YtaidmohjnbibiaaGreatDoor.K.num_May.f a0).bind fun t102 => (if t102 = true then ((Go.Proofs.YtaidmohjnbibiaaGreatDoor.K.num_May.f a1).bind fun t103 => (if t103 = true then ((Go.Proofs.YtaidmohjnbibiaaGreatDoor.K.num_May.f a2).bind fun t104 => (if t104 = true then (reredoslaw12_ScalarMod.j0 k a0 a1 a2 t101 (a2.toList == ([48] : List UInt8))) else (reredoslaw12_ScalarMod.j0 k a0 a1 a2 t101 true))) else (reredoslaw12_ScalarMod.j0 k a0 a1 a2 t101 true))) else (reredoslaw12_ScalarMod.j0 k a0 a1 a2 t101 true))))))) = some r := h
  clear h
  obtain ⟨t101, A40, H⟩ := Option.bind_eq_some_iff.mp H
  try dsimp only at H
  have A4 := Aside0.mk A40
  clear A40
  have HC5 := Aside0.mk H
  clear H
  go_enter Tryz.func4, Tryz.ntmps4
  go_upto_region 2 with (first | ((with_reducible refine gate_callee (f := 9) rfl ?_); refine goesL_ (some 22) rfl rfl Tryz.func9 (by kernel_rfl) rfl #[] rfl bkA ?_; (with_reducible refine (SL.reredoslaw12_shown.calls k  t101 _ ?side1 A4.out).mono ?_); (case side1 => exact Hd.GL.below HGL.out bkB); rintro e w6 ⟨rfl, hb⟩; refine ⟨_, rfl, ?_⟩; replace HB := bkS hb; clear hb; (try clear hb2); (try clear hk); (try clear hi)))
  (try simp only [Act.put, List.setIfInBounds_toArray, List.set_cons_zero, List.set_cons_succ])
  go_cut [54] (fun v54 wc => ∃ (kq : Nat) (x54_4 : Bool), v54 = .bool x54_4 ∧ Aside0 (reredoslaw12_ScalarMod.j0 kq a0 a1 a2 t101 x54_4 = some r) ∧ Aside0 (kq ≤ k) ∧ Aside0 (Below w.heap.size w wc))
  case first =>
    have H := HC5.out
    clear HC5
    by_cases c7 : (a0.size : Int) > 200
    · rw [if_pos c7] at H
      have c7b0 : decide (200 < (a0.size : Int)) = true := decide_eq_true c7
      have c7b1 : decide (200 < a0.size) = true := decide_eq_true (by omega)
      clear c7
      (first | rw [c7b0] | (simp only [i64_w, i32_w]; rw [c7b0]) | skip)
      have H' := Aside0.mk H
      clear H
      go_wp2
      go_meet
      case rel => exact ⟨_, (true), bkF, H', ⟨by first | omega | exact Nat.le_refl _⟩, ⟨bkB⟩⟩
    · rw [if_neg c7] at H
      have c7b0 : decide (200 < (a0.size : Int)) = false := decide_eq_false c7
      have c7b1 : decide (200 < a0.size) = false := decide_eq_false (by omega)
      clear c7
      (first | rw [c7b0] | (simp only [i64_w, i32_w]; rw [c7b0]) | skip)
      by_cases c8 : (a1.size : Int) > 200
      · rw [if_pos c8] at H
        have c8b0 : decide (200 < (a1.size : Int)) = true := decide_eq_true c8
        have c8b1 : decide (200 < a1.size) = true := decide_eq_true (by omega)
        clear c8
        have H' := Aside0.mk H
        clear H
        go_wp2
        go_meet
        case rel => exact ⟨_, (true), bkF, H', ⟨by first | omega | exact Nat.le_refl _⟩, ⟨bkB⟩⟩
      · rw [if_neg c8] at H
        have c8b0 : decide (200 < (a1.size : Int)) = false := decide_eq_false c8
        have c8b1 : decide (200 < a1.size) = false := decide_eq_false (by omega)
        clear c8
        by_cases c9 : (a2.size : Int) > 200
        · rw [if_pos c9] at H
          have c9b0 : decide (200 < (a2.size : Int)) = true := decide_eq_true c9
          have c9b1 : decide (200 < a2.size) = true := decide_eq_true (by omega)
          clear c9
          have H' := Aside0.mk H
          clear H
          go_wp2
          go_meet
          case rel => exact ⟨_, (true), bkF, H', ⟨by first | omega | exact Nat.le_refl _⟩, ⟨bkB⟩⟩
        · rw [if_neg c9] at H
          have c9b0 : decide (200 < (a2.size : Int)) = false := decide_eq_false c9
          have c9b1 : decide (200 < a2.size) = false := decide_eq_false (by omega)
          clear c9
          obtain ⟨t102, A100, H⟩ := Option.bind_eq_some_iff.mp H
          try dsimp only at H
          have A10 := Aside0.mk A100
          clear A100
          by_cases c11 : t102 = true
          · subst c11
            rw [if_pos rfl] at H
            obtain ⟨t103, A120, H⟩ := Option.bind_eq_some_iff.mp H
            try dsimp only at H
            have A12 := Aside0.mk A120
            clear A120
            by_cases c13 : t103 = true
            · subst c13
              rw [if_pos rfl] at H
              obtain ⟨t104, A140, H⟩ := Option.bind_eq_some_iff.mp H
              try dsimp only at H
              have A14 := Aside0.mk A140
              clear A140
              by_cases c15 : t104 = true
              · subst c15
                rw [if_pos rfl] at H
                have H' := Aside0.mk H
                clear H
                go_wp2_with (first | (go_at_call 10; (with_reducible refine (Go.Proofs.YtaidmohjnbibiaaGreatDoor.K.num_May.calls a0 true _ A10.out).mono ?_); rintro e w16 ⟨rfl, hb⟩; replace HB := bkS hb; clear hb; (try clear hb2); (try clear hk); (try clear hi)) | (go_at_call 10; (with_reducible refine (Go.Proofs.YtaidmohjnbibiaaGreatDoor.K.num_May.calls a1 true _ A12.out).mono ?_); rintro e w17 ⟨rfl, hb⟩; replace HB := bkS hb; clear hb; (try clear hb2); (try clear hk); (try clear hi)) | (go_at_call 10; (with_reducible refine (Go.Proofs.YtaidmohjnbibiaaGreatDoor.K.num_May.calls a2 true _ A14.out).mono ?_); rintro e w18 ⟨rfl, hb⟩; replace HB := bkS hb; clear hb; (try clear hb2); (try clear hk); (try clear hi)))
                go_meet
                case rel => exact ⟨_, ((a2.toList == ([48] : List UInt8))), bkF, H', ⟨by first | omega | exact Nat.le_refl _⟩, ⟨bkB⟩⟩
              · replace c15 := Bool.eq_false_iff.mpr c15
                subst c15
                rw [if_neg Bool.false_ne_true] at H
                have H' := Aside0.mk H
                clear H
                go_wp2_with (first | (go_at_call 10; (with_reducible refine (Go.Proofs.YtaidmohjnbibiaaGreatDoor.K.num_May.calls a0 true _ A10.out).mono ?_); rintro e w19 ⟨rfl, hb⟩; replace HB := bkS hb; clear hb; (try clear hb2); (try clear hk); (try clear hi)) | (go_at_call 10; (with_reducible refine (Go.Proofs.YtaidmohjnbibiaaGreatDoor.K.num_May.calls a1 true _ A12.out).mono ?_); rintro e w20 ⟨rfl, hb⟩; replace HB := bkS hb; clear hb; (try clear hb2); (try clear hk); (try clear hi)) | (go_at_call 10; (with_reducible refine (Go.Proofs.YtaidmohjnbibiaaGreatDoor.K.num_May.calls a2 false _ A14.out).mono ?_); rintro e w21 ⟨rfl, hb⟩; replace HB := bkS hb; clear hb; (try clear hb2); (try clear hk); (try clear hi)))
                go_meet
                case rel => exact ⟨_, (true), bkF, H', ⟨by first | omega | exact Nat.le_refl _⟩, ⟨bkB⟩⟩
            · replace c13 := Bool.eq_false_iff.mpr c13
              subst c13
              rw [if_neg Bool.false_ne_true] at H
              have H' := Aside0.mk H
              clear H
              go_wp2_with (first | (go_at_call 10; (with_reducible refine (Go.Proofs.YtaidmohjnbibiaaGreatDoor.K.num_May.calls a0 true _ A10.out).mono ?_); rintro e w22 ⟨rfl, hb⟩; replace HB := bkS hb; clear hb; (try clear hb2); (try clear hk); (try clear hi)) | (go_at_call 10; (with_reducible refine (Go.Proofs.YtaidmohjnbibiaaGreatDoor.K.num_May.calls a1 false _ A12.out).mono ?_); rintro e w23 ⟨rfl, hb⟩; replace HB := bkS hb; clear hb; (try clear hb2); (try clear hk); (try clear hi)))
              go_meet
              case rel => exact ⟨_, (true), bkF, H', ⟨by first | omega | exact Nat.le_refl _⟩, ⟨bkB⟩⟩
          · replace c11 := Bool.eq_false_iff.mpr c11
            subst c11
            rw [if_neg Bool.false_ne_true] at H
            have H' := Aside0.mk H
            clear H
            go_wp2_with (first | (go_at_call 10; (with_reducible refine (Go.Proofs.YtaidmohjnbibiaaGreatDoor.K.num_May.calls a0 false _ A10.out).mono ?_); rintro e w24 ⟨rfl, hb⟩; replace HB := bkS hb; clear hb; (try clear hb2); (try clear hk); (try clear hi)))
            go_meet
            case rel => exact ⟨_, (true), bkF, H', ⟨by first | omega | exact Nat.le_refl _⟩, ⟨bkB⟩⟩
  case rest =>
    clear HC5
    try clear c1
    try clear p2
    try clear c4
    try clear c7
    try clear c7b0
    try clear c7b1
    try clear c8
    try clear c8b0
    try clear c8b1
    try clear c9
    try clear c9b0
    try clear c9b1
    try clear c11
    try clear c13
    try clear c15
    obtain ⟨kq, x54_4, rfl, HA, HJ4, HB⟩ := hcut
    cases kq with
    | zero => exact absurd HA.out (by simp [reredoslaw12_ScalarMod.j0])
    | succ kj4 =>
      have H := HA.out
      clear HA
      simp only [reredoslaw12_ScalarMod.j0] at H
      by_cases c25 : x54_4 = true
      · subst c25
        rw [if_pos rfl] at H
        obtain rfl := Option.some.inj H
        go_wp2
        go_ret
        exact ⟨bkE, bkB⟩
      · replace c25 := Bool.eq_false_iff.mpr c25
        subst c25
        rw [if_neg Bool.false_ne_true] at H
        obtain ⟨⟨t105, t106⟩, A260, H⟩ := Option.bind_eq_some_iff.mp H
        try dsimp only at H
        have A26 := Aside0.mk A260
        clear A260
        obtain ⟨⟨t107, t108⟩, A270, H⟩ := Option.bind_eq_some_iff.mp H
        try dsimp only at H
        have A27 := Aside0.mk A270
        clear A270
        obtain ⟨⟨t109, t110⟩, A280, H⟩ := Option.bind_eq_some_iff.mp H
        try dsimp only at H
        have A28 := Aside0.mk A280
        clear A280
        obtain ⟨⟨t111, t112⟩, A290, H⟩ := Option.bind_eq_some_iff.mp H
        try dsimp only at H
        have A29 := Aside0.mk A290
        clear A290
        obtain ⟨⟨t113, t114⟩, A300, H⟩ := Option.bind_eq_some_iff.mp H
        try dsimp only at H
        have A30 := Aside0.mk A300
        clear A300
        obtain ⟨⟨t115, t116⟩, A310, H⟩ := Option.bind_eq_some_iff.mp H
        try dsimp only at H
        have A31 := Aside0.mk A310
        clear A310
        obtain ⟨⟨t117, t118⟩, A320, H⟩ := Option.bind_eq_some_iff.mp H
        try dsimp only at H
        have A32 := Aside0.mk A320
        clear A320
        by_cases c33 : t101 = true
        · subst c33
          rw [if_pos rfl] at H
          by_cases c34 : t106 = 0
          · rw [if_pos c34] at H
            have c34b0 : (t106 == 0) = true := beq_iff_eq.mpr c34
            have c34b1 : (t106 != 0) = false := bne_eq_false_iff_eq.mpr c34
            clear c34
            by_cases c35 : t108 = 0
            · rw [if_pos c35] at H
              have c35b0 : (t108 == 0) = true := beq_iff_eq.mpr c35
              have c35b1 : (t108 != 0) = false := bne_eq_false_iff_eq.mpr c35
              clear c35
              by_cases c36 : t114 = 0
              · rw [if_pos c36] at H
                have c36b0 : (t114 == 0) = true := beq_iff_eq.mpr c36
                have c36b1 : (t114 != 0) = false := bne_eq_false_iff_eq.mpr c36
                clear c36
                by_cases c37 : t116 = 0
                · rw [if_pos c37] at H
                  have c37b0 : (t116 == 0) = true := beq_iff_eq.mpr c37
                  have c37b1 : (t116 != 0) = false := bne_eq_false_iff_eq.mpr c37
                  clear c37
                  by_cases c38 : t107.toList = t115.toList
                  · rw [if_pos c38] at H
                    have c38b0 : (t107.toList == t115.toList) = true := beq_iff_eq.mpr c38
                    have c38b1 : (t107.toList != t115.toList) = false := bne_eq_false_iff_eq.mpr c38
                    clear c38
                    by_cases c39 : t118 = 0
                    · rw [if_pos c39] at H
                      have c39b0 : (t118 == 0) = true := beq_iff_eq.mpr c39
                      have c39b1 : (t118 != 0) = false := bne_eq_false_iff_eq.mpr c39
                      clear c39
                      obtain rfl := Option.some.inj H
                      go_wp2_with (first | ((with_reducible refine gate_callee (f := 11) rfl ?_); refine goesL_ (some 59) rfl rfl Tryz.func11 (by kernel_rfl) rfl #[.string (⟨#[43]⟩ : ByteArray), .string a0, .string a1] rfl bkA ?_; (with_reducible refine (Hd.scalarDyad.calls kj4 (⟨#[43]⟩ : ByteArray) a0 a1 t105 t106 _ ?side1 A26.out).mono ?_); (case side1 => exact Hd.GL.below HGL.out bkB); rintro e w40 ⟨rfl, hb⟩; refine ⟨_, rfl, ?_⟩; replace HB := bkS hb; clear hb; (try clear hb2); (try clear hk); (try clear hi)) | ((with_reducible refine gate_callee (f := 11) rfl ?_); refine goesL_ (some 65) rfl rfl Tryz.func11 (by kernel_rfl) rfl #[.string (⟨#[33]⟩ : ByteArray), .string t105, .string a2] rfl bkA ?_; (with_reducible refine (Hd.scalarDyad.calls kj4 (⟨#[33]⟩ : ByteArray) t105 a2 t107 t108 _ ?side1 A27.out).mono ?_); (case side1 => exact Hd.GL.below HGL.out bkB); rintro e w41 ⟨rfl, hb⟩; refine ⟨_, rfl, ?_⟩; replace HB := bkS hb; clear hb; (try clear hb2); (try clear hk); (try clear hi)) | ((with_reducible refine gate_callee (f := 11) rfl ?_); refine goesL_ (some 71) rfl rfl Tryz.func11 (by kernel_rfl) rfl #[.string (⟨#[33]⟩ : ByteArray), .string a0, .string a2] rfl bkA ?_; (with_reducible refine (Hd.scalarDyad.calls kj4 (⟨#[33]⟩ : ByteArray) a0 a2 t109 t110 _ ?side1 A28.out).mono ?_); (case side1 => exact Hd.GL.below HGL.out bkB); rintro e w42 ⟨rfl, hb⟩; refine ⟨_, rfl, ?_⟩; replace HB := bkS hb; clear hb; (try clear hb2); (try clear hk); (try clear hi)) | ((with_reducible refine gate_callee (f := 11) rfl ?_); refine goesL_ (some 77) rfl rfl Tryz.func11 (by kernel_rfl) rfl #[.string (⟨#[33]⟩ : ByteArray), .string a1, .string a2] rfl bkA ?_; (with_reducible refine (Hd.scalarDyad.calls kj4 (⟨#[33]⟩ : ByteArray) a1 a2 t111 t112 _ ?side1 A29.out).mono ?_); (case side1 => exact Hd.GL.below HGL.out bkB); rintro e w43 ⟨rfl, hb⟩; refine ⟨_, rfl, ?_⟩; replace HB := bkS hb; clear hb; (try clear hb2); (try clear hk); (try clear hi)) | ((with_reducible refine gate_callee (f := 11) rfl ?_); refine goesL_ (some 83) rfl rfl Tryz.func11 (by kernel_rfl) rfl #[.string (⟨#[43]⟩ : ByteArray), .string t109, .string t111] rfl bkA ?_; (with_reducible refine (Hd.scalarDyad.calls kj4 (⟨#[43]⟩ : ByteArray) t109 t111 t113 t114 _ ?side1 A30.out).mono ?_); (case side1 => exact Hd.GL.below HGL.out bkB); rintro e w44 ⟨rfl, hb⟩; refine ⟨_, rfl, ?_⟩; replace HB := bkS hb; clear hb; (try clear hb2); (try clear hk); (try clear hi)) | ((with_reducible refine gate_callee (f := 11) rfl ?_); refine goesL_ (some 89) rfl rfl Tryz.func11 (by kernel_rfl) rfl #[.string (⟨#[33]⟩ : ByteArray), .string t113, .string a2] rfl bkA ?_; (with_reducible refine (Hd.scalarDyad.calls kj4 (⟨#[33]⟩ : ByteArray) t113 a2 t115 t116 _ ?side1 A31.out).mono ?_); (case side1 => exact Hd.GL.below HGL.out bkB); rintro e w45 ⟨rfl, hb⟩; refine ⟨_, rfl, ?_⟩; replace HB := bkS hb; clear hb; (try clear hb2); (try clear hk); (try clear hi)) | ((with_reducible refine gate_callee (f := 11) rfl ?_); refine goesL_ (some 95) rfl rfl Tryz.func11 (by kernel_rfl) rfl #[.string (⟨#[33]⟩ : ByteArray), .string a2, .string a2] rfl bkA ?_; (with_reducible refine (Hd.scalarDyad.calls kj4 (⟨#[33]⟩ : ByteArray) a2 a2 t117 t118 _ ?side1 A32.out).mono ?_); (case side1 => exact Hd.GL.below HGL.out bkB); rintro e w46 ⟨rfl, hb⟩; refine ⟨_, rfl, ?_⟩; replace HB := bkS hb; clear hb; (try clear hb2); (try clear hk); (try clear hi)))
                      go_ret
                      exact ⟨bkE, bkB⟩
                    · rw [if_neg c39] at H
                      have c39b0 : (t118 == 0) = false := beq_eq_false_iff_ne.mpr c39
                      have c39b1 : (t118 != 0) = true := bne_iff_ne.mpr c39
                      obtain rfl := Option.some.inj H
                      go_wp2_with (first | ((with_reducible refine gate_callee (f := 11) rfl ?_); refine goesL_ (some 59) rfl rfl Tryz.func11 (by kernel_rfl) rfl #[.string (⟨#[43]⟩ : ByteArray), .string a0, .string a1] rfl bkA ?_; (with_reducible refine (Hd.scalarDyad.calls kj4 (⟨#[43]⟩ : ByteArray) a0 a1 t105 t106 _ ?side1 A26.out).mono ?_); (case side1 => exact Hd.GL.below HGL.out bkB); rintro e w47 ⟨rfl, hb⟩; refine ⟨_, rfl, ?_⟩; replace HB := bkS hb; clear hb; (try clear hb2); (try clear hk); (try clear hi)) | ((with_reducible refine gate_callee (f := 11) rfl ?_); refine goesL_ (some 65) rfl rfl Tryz.func11 (by kernel_rfl) rfl #[.string (⟨#[33]⟩ : ByteArray), .string t105, .string a2] rfl bkA ?_; (with_reducible refine (Hd.scalarDyad.calls kj4 (⟨#[33]⟩ : ByteArray) t105 a2 t107 t108 _ ?side1 A27.out).mono ?_); (case side1 => exact Hd.GL.below HGL.out bkB); rintro e w48 ⟨rfl, hb⟩; refine ⟨_, rfl, ?_⟩; replace HB := bkS hb; clear hb; (try clear hb2); (try clear hk); (try clear hi)) | ((with_reducible refine gate_callee (f := 11) rfl ?_); refine goesL_ (some 71) rfl rfl Tryz.func11 (by kernel_rfl) rfl #[.string (⟨#[33]⟩ : ByteArray), .string a0, .string a2] rfl bkA ?_; (with_reducible refine (Hd.scalarDyad.calls kj4 (⟨#[33]⟩ : ByteArray) a0 a2 t109 t110 _ ?side1 A28.out).mono ?_); (case side1 => exact Hd.GL.below HGL.out bkB); rintro e w49 ⟨rfl, hb⟩; refine ⟨_, rfl, ?_⟩; replace HB := bkS hb; clear hb; (try clear hb2); (try clear hk); (try clear hi)) | ((with_reducible refine gate_callee (f := 11) rfl ?_); refine goesL_ (some 77) rfl rfl Tryz.func11 (by kernel_rfl) rfl #[.string (⟨#[33]⟩ : ByteArray), .string a1, .string a2] rfl bkA ?_; (with_reducible refine (Hd.scalarDyad.calls kj4 (⟨#[33]⟩ : ByteArray) a1 a2 t111 t112 _ ?side1 A29.out).mono ?_); (case side1 => exact Hd.GL.below HGL.out bkB); rintro e w50 ⟨rfl, hb⟩; refine ⟨_, rfl, ?_⟩; replace HB := bkS hb; clear hb; (try clear hb2); (try clear hk); (try clear hi)) | ((with_reducible refine gate_callee (f := 11) rfl ?_); refine goesL_ (some 83) rfl rfl Tryz.func11 (by kernel_rfl) rfl #[.string (⟨#[43]⟩ : ByteArray), .string t109, .string t111] rfl bkA ?_; (with_reducible refine (Hd.scalarDyad.calls kj4 (⟨#[43]⟩ : ByteArray) t109 t111 t113 t114 _ ?side1 A30.out).mono ?_); (case side1 => exact Hd.GL.below HGL.out bkB); rintro e w51 ⟨rfl, hb⟩; refine ⟨_, rfl, ?_⟩; replace HB := bkS hb; clear hb; (try clear hb2); (try clear hk); (try clear hi)) | ((with_reducible refine gate_callee (f := 11) rfl ?_); refine goesL_ (some 89) rfl rfl Tryz.func11 (by kernel_rfl) rfl #[.string (⟨#[33]⟩ : ByteArray), .string t113, .string a2] rfl bkA ?_; (with_reducible refine (Hd.scalarDyad.calls kj4 (⟨#[33]⟩ : ByteArray) t113 a2 t115 t116 _ ?side1 A31.out).mono ?_); (case side1 => exact Hd.GL.below HGL.out bkB); rintro e w52 ⟨rfl, hb⟩; refine ⟨_, rfl, ?_⟩; replace HB := bkS hb; clear hb; (try clear hb2); (try clear hk); (try clear hi)) | ((with_reducible refine gate_callee (f := 11) rfl ?_); refine goesL_ (some 95) rfl rfl Tryz.func11 (by kernel_rfl) rfl #[.string (⟨#[33]⟩ : ByteArray), .string a2, .string a2] rfl bkA ?_; (with_reducible refine (Hd.scalarDyad.calls kj4 (⟨#[33]⟩ : ByteArray) a2 a2 t117 t118 _ ?side1 A32.out).mono ?_); (case side1 => exact Hd.GL.below HGL.out bkB); rintro e w53 ⟨rfl, hb⟩; refine ⟨_, rfl, ?_⟩; replace HB := bkS hb; clear hb; (try clear hb2); (try clear hk); (try clear hi)))
                      go_ret
                      exact ⟨bkE, bkB⟩
                  · rw [if_neg c38] at H
                    have c38b0 : (t107.toList == t115.toList) = false := beq_eq_false_iff_ne.mpr c38
                    have c38b1 : (t107.toList != t115.toList) = true := bne_iff_ne.mpr c38
                    obtain rfl := Option.some.inj H
                    go_wp2_with (first | ((with_reducible refine gate_callee (f := 11) rfl ?_); refine goesL_ (some 59) rfl rfl Tryz.func11 (by kernel_rfl) rfl #[.string (⟨#[43]⟩ : ByteArray), .string a0, .string a1] rfl bkA ?_; (with_reducible refine (Hd.scalarDyad.calls kj4 (⟨#[43]⟩ : ByteArray) a0 a1 t105 t106 _ ?side1 A26.out).mono ?_); (case side1 => exact Hd.GL.below HGL.out bkB); rintro e w54 ⟨rfl, hb⟩; refine ⟨_, rfl, ?_⟩; replace HB := bkS hb; clear hb; (try clear hb2); (try clear hk); (try clear hi)) | ((with_reducible refine gate_callee (f := 11) rfl ?_); refine goesL_ (some 65) rfl rfl Tryz.func11 (by kernel_rfl) rfl #[.string (⟨#[33]⟩ : ByteArray), .string t105, .string a2] rfl bkA ?_; (with_reducible refine (Hd.scalarDyad.calls kj4 (⟨#[33]⟩ : ByteArray) t105 a2 t107 t108 _ ?side1 A27.out).mono ?_); (case side1 => exact Hd.GL.below HGL.out bkB); rintro e w55 ⟨rfl, hb⟩; refine ⟨_, rfl, ?_⟩; replace HB := bkS hb; clear hb; (try clear hb2); (try clear hk); (try clear hi)) | ((with_reducible refine gate_callee (f := 11) rfl ?_); refine goesL_ (some 71) rfl rfl Tryz.func11 (by kernel_rfl) rfl #[.string (⟨#[33]⟩ : ByteArray), .string a0, .string a2] rfl bkA ?_; (with_reducible refine (Hd.scalarDyad.calls kj4 (⟨#[33]⟩ : ByteArray) a0 a2 t109 t110 _ ?side1 A28.out).mono ?_); (case side1 => exact Hd.GL.below HGL.out bkB); rintro e w56 ⟨rfl, hb⟩; refine ⟨_, rfl, ?_⟩; replace HB := bkS hb; clear hb; (try clear hb2); (try clear hk); (try clear hi)) | ((with_reducible refine gate_callee (f := 11) rfl ?_); refine goesL_ (some 77) rfl rfl Tryz.func11 (by kernel_rfl) rfl #[.string (⟨#[33]⟩ : ByteArray), .string a1, .string a2] rfl bkA ?_; (with_reducible refine (Hd.scalarDyad.calls kj4 (⟨#[33]⟩ : ByteArray) a1 a2 t111 t112 _ ?side1 A29.out).mono ?_); (case side1 => exact Hd.GL.below HGL.out bkB); rintro e w57 ⟨rfl, hb⟩; refine ⟨_, rfl, ?_⟩; replace HB := bkS hb; clear hb; (try clear hb2); (try clear hk); (try clear hi)) | ((with_reducible refine gate_callee (f := 11) rfl ?_); refine goesL_ (some 83) rfl rfl Tryz.func11 (by kernel_rfl) rfl #[.string (⟨#[43]⟩ : ByteArray), .string t109, .string t111] rfl bkA ?_; (with_reducible refine (Hd.scalarDyad.calls kj4 (⟨#[43]⟩ : ByteArray) t109 t111 t113 t114 _ ?side1 A30.out).mono ?_); (case side1 => exact Hd.GL.below HGL.out bkB); rintro e w58 ⟨rfl, hb⟩; refine ⟨_, rfl, ?_⟩; replace HB := bkS hb; clear hb; (try clear hb2); (try clear hk); (try clear hi)) | ((with_reducible refine gate_callee (f := 11) rfl ?_); refine goesL_ (some 89) rfl rfl Tryz.func11 (by kernel_rfl) rfl #[.string (⟨#[33]⟩ : ByteArray), .string t113, .string a2] rfl bkA ?_; (with_reducible refine (Hd.scalarDyad.calls kj4 (⟨#[33]⟩ : ByteArray) t113 a2 t115 t116 _ ?side1 A31.out).mono ?_); (case side1 => exact Hd.GL.below HGL.out bkB); rintro e w59 ⟨rfl, hb⟩; refine ⟨_, rfl, ?_⟩; replace HB := bkS hb; clear hb; (try clear hb2); (try clear hk); (try clear hi)) | ((with_reducible refine gate_callee (f := 11) rfl ?_); refine goesL_ (some 95) rfl rfl Tryz.func11 (by kernel_rfl) rfl #[.string (⟨#[33]⟩ : ByteArray), .string a2, .string a2] rfl bkA ?_; (with_reducible refine (Hd.scalarDyad.calls kj4 (⟨#[33]⟩ : ByteArray) a2 a2 t117 t118 _ ?side1 A32.out).mono ?_); (case side1 => exact Hd.GL.below HGL.out bkB); rintro e w60 ⟨rfl, hb⟩; refine ⟨_, rfl, ?_⟩; replace HB := bkS hb; clear hb; (try clear hb2); (try clear hk); (try clear hi)))
                    go_ret
                    exact ⟨bkE, bkB⟩
                · rw [if_neg c37] at H
                  have c37b0 : (t116 == 0) = false := beq_eq_false_iff_ne.mpr c37
                  have c37b1 : (t116 != 0) = true := bne_iff_ne.mpr c37
                  obtain rfl := Option.some.inj H
                  go_wp2_with (first | ((with_reducible refine gate_callee (f := 11) rfl ?_); refine goesL_ (some 59) rfl rfl Tryz.func11 (by kernel_rfl) rfl #[.string (⟨#[43]⟩ : ByteArray), .string a0, .string a1] rfl bkA ?_; (with_reducible refine (Hd.scalarDyad.calls kj4 (⟨#[43]⟩ : ByteArray) a0 a1 t105 t106 _ ?side1 A26.out).mono ?_); (case side1 => exact Hd.GL.below HGL.out bkB); rintro e w61 ⟨rfl, hb⟩; refine ⟨_, rfl, ?_⟩; replace HB := bkS hb; clear hb; (try clear hb2); (try clear hk); (try clear hi)) | ((with_reducible refine gate_callee (f := 11) rfl ?_); refine goesL_ (some 65) rfl rfl Tryz.func11 (by kernel_rfl) rfl #[.string (⟨#[33]⟩ : ByteArray), .string t105, .string a2] rfl bkA ?_; (with_reducible refine (Hd.scalarDyad.calls kj4 (⟨#[33]⟩ : ByteArray) t105 a2 t107 t108 _ ?side1 A27.out).mono ?_); (case side1 => exact Hd.GL.below HGL.out bkB); rintro e w62 ⟨rfl, hb⟩; refine ⟨_, rfl, ?_⟩; replace HB := bkS hb; clear hb; (try clear hb2); (try clear hk); (try clear hi)) | ((with_reducible refine gate_callee (f := 11) rfl ?_); refine goesL_ (some 71) rfl rfl Tryz.func11 (by kernel_rfl) rfl #[.string (⟨#[33]⟩ : ByteArray), .string a0, .string a2] rfl bkA ?_; (with_reducible refine (Hd.scalarDyad.calls kj4 (⟨#[33]⟩ : ByteArray) a0 a2 t109 t110 _ ?side1 A28.out).mono ?_); (case side1 => exact Hd.GL.below HGL.out bkB); rintro e w63 ⟨rfl, hb⟩; refine ⟨_, rfl, ?_⟩; replace HB := bkS hb; clear hb; (try clear hb2); (try clear hk); (try clear hi)) | ((with_reducible refine gate_callee (f := 11) rfl ?_); refine goesL_ (some 77) rfl rfl Tryz.func11 (by kernel_rfl) rfl #[.string (⟨#[33]⟩ : ByteArray), .string a1, .string a2] rfl bkA ?_; (with_reducible refine (Hd.scalarDyad.calls kj4 (⟨#[33]⟩ : ByteArray) a1 a2 t111 t112 _ ?side1 A29.out).mono ?_); (case side1 => exact Hd.GL.below HGL.out bkB); rintro e w64 ⟨rfl, hb⟩; refine ⟨_, rfl, ?_⟩; replace HB := bkS hb; clear hb; (try clear hb2); (try clear hk); (try clear hi)) | ((with_reducible refine gate_callee (f := 11) rfl ?_); refine goesL_ (some 83) rfl rfl Tryz.func11 (by kernel_rfl) rfl #[.string (⟨#[43]⟩ : ByteArray), .string t109, .string t111] rfl bkA ?_; (with_reducible refine (Hd.scalarDyad.calls kj4 (⟨#[43]⟩ : ByteArray) t109 t111 t113 t114 _ ?side1 A30.out).mono ?_); (case side1 => exact Hd.GL.below HGL.out bkB); rintro e w65 ⟨rfl, hb⟩; refine ⟨_, rfl, ?_⟩; replace HB := bkS hb; clear hb; (try clear hb2); (try clear hk); (try clear hi)) | ((with_reducible refine gate_callee (f := 11) rfl ?_); refine goesL_ (some 89) rfl rfl Tryz.func11 (by kernel_rfl) rfl #[.string (⟨#[33]⟩ : ByteArray), .string t113, .string a2] rfl bkA ?_; (with_reducible refine (Hd.scalarDyad.calls kj4 (⟨#[33]⟩ : ByteArray) t113 a2 t115 t116 _ ?side1 A31.out).mono ?_); (case side1 => exact Hd.GL.below HGL.out bkB); rintro e w66 ⟨rfl, hb⟩; refine ⟨_, rfl, ?_⟩; replace HB := bkS hb; clear hb; (try clear hb2); (try clear hk); (try clear hi)) | ((with_reducible refine gate_callee (f := 11) rfl ?_); refine goesL_ (some 95) rfl rfl Tryz.func11 (by kernel_rfl) rfl #[.string (⟨#[33]⟩ : ByteArray), .string a2, .string a2] rfl bkA ?_; (with_reducible refine (Hd.scalarDyad.calls kj4 (⟨#[33]⟩ : ByteArray) a2 a2 t117 t118 _ ?side1 A32.out).mono ?_); (case side1 => exact Hd.GL.below HGL.out bkB); rintro e w67 ⟨rfl, hb⟩; refine ⟨_, rfl, ?_⟩; replace HB := bkS hb; clear hb; (try clear hb2); (try clear hk); (try clear hi)))
                  go_ret
                  exact ⟨bkE, bkB⟩
              · rw [if_neg c36] at H
                have c36b0 : (t114 == 0) = false := beq_eq_false_iff_ne.mpr c36
                have c36b1 : (t114 != 0) = true := bne_iff_ne.mpr c36
                by_cases c68 : t118 = 0
                · rw [if_pos c68] at H
                  have c68b0 : (t118 == 0) = true := beq_iff_eq.mpr c68
                  have c68b1 : (t118 != 0) = false := bne_eq_false_iff_eq.mpr c68
                  clear c68
                  obtain rfl := Option.some.inj H
                  go_wp2_with (first | ((with_reducible refine gate_callee (f := 11) rfl ?_); refine goesL_ (some 59) rfl rfl Tryz.func11 (by kernel_rfl) rfl #[.string (⟨#[43]⟩ : ByteArray), .string a0, .string a1] rfl bkA ?_; (with_reducible refine (Hd.scalarDyad.calls kj4 (⟨#[43]⟩ : ByteArray) a0 a1 t105 t106 _ ?side1 A26.out).mono ?_); (case side1 => exact Hd.GL.below HGL.out bkB); rintro e w69 ⟨rfl, hb⟩; refine ⟨_, rfl, ?_⟩; replace HB := bkS hb; clear hb; (try clear hb2); (try clear hk); (try clear hi)) | ((with_reducible refine gate_callee (f := 11) rfl ?_); refine goesL_ (some 65) rfl rfl Tryz.func11 (by kernel_rfl) rfl #[.string (⟨#[33]⟩ : ByteArray), .string t105, .string a2] rfl bkA ?_; (with_reducible refine (Hd.scalarDyad.calls kj4 (⟨#[33]⟩ : ByteArray) t105 a2 t107 t108 _ ?side1 A27.out).mono ?_); (case side1 => exact Hd.GL.below HGL.out bkB); rintro e w70 ⟨rfl, hb⟩; refine ⟨_, rfl, ?_⟩; replace HB := bkS hb; clear hb; (try clear hb2); (try clear hk); (try clear hi)) | ((with_reducible refine gate_callee (f := 11) rfl ?_); refine goesL_ (some 71) rfl rfl Tryz.func11 (by kernel_rfl) rfl #[.string (⟨#[33]⟩ : ByteArray), .string a0, .string a2] rfl bkA ?_; (with_reducible refine (Hd.scalarDyad.calls kj4 (⟨#[33]⟩ : ByteArray) a0 a2 t109 t110 _ ?side1 A28.out).mono ?_); (case side1 => exact Hd.GL.below HGL.out bkB); rintro e w71 ⟨rfl, hb⟩; refine ⟨_, rfl, ?_⟩; replace HB := bkS hb; clear hb; (try clear hb2); (try clear hk); (try clear hi)) | ((with_reducible refine gate_callee (f := 11) rfl ?_); refine goesL_ (some 77) rfl rfl Tryz.func11 (by kernel_rfl) rfl #[.string (⟨#[33]⟩ : ByteArray), .string a1, .string a2] rfl bkA ?_; (with_reducible refine (Hd.scalarDyad.calls kj4 (⟨#[33]⟩ : ByteArray) a1 a2 t111 t112 _ ?side1 A29.out).mono ?_); (case side1 => exact Hd.GL.below HGL.out bkB); rintro e w72 ⟨rfl, hb⟩; refine ⟨_, rfl, ?_⟩; replace HB := bkS hb; clear hb; (try clear hb2); (try clear hk); (try clear hi)) | ((with_reducible refine gate_callee (f := 11) rfl ?_); refine goesL_ (some 83) rfl rfl Tryz.func11 (by kernel_rfl) rfl #[.string (⟨#[43]⟩ : ByteArray), .string t109, .string t111] rfl bkA ?_; (with_reducible refine (Hd.scalarDyad.calls kj4 (⟨#[43]⟩ : ByteArray) t109 t111 t113 t114 _ ?side1 A30.out).mono ?_); (case side1 => exact Hd.GL.below HGL.out bkB); rintro e w73 ⟨rfl, hb⟩; refine ⟨_, rfl, ?_⟩; replace HB := bkS hb; clear hb; (try clear hb2); (try clear hk); (try clear hi)) | ((with_reducible refine gate_callee (f := 11) rfl ?_); refine goesL_ (some 89) rfl rfl Tryz.func11 (by kernel_rfl) rfl #[.string (⟨#[33]⟩ : ByteArray), .string t113, .string a2] rfl bkA ?_; (with_reducible refine (Hd.scalarDyad.calls kj4 (⟨#[33]⟩ : ByteArray) t113 a2 t115 t116 _ ?side1 A31.out).mono ?_); (case side1 => exact Hd.GL.below HGL.out bkB); rintro e w74 ⟨rfl, hb⟩; refine ⟨_, rfl, ?_⟩; replace HB := bkS hb; clear hb; (try clear hb2); (try clear hk); (try clear hi)) | ((with_reducible refine gate_callee (f := 11) rfl ?_); refine goesL_ (some 95) rfl rfl Tryz.func11 (by kernel_rfl) rfl #[.string (⟨#[33]⟩ : ByteArray), .string a2, .string a2] rfl bkA ?_; (with_reducible refine (Hd.scalarDyad.calls kj4 (⟨#[33]⟩ : ByteArray) a2 a2 t117 t118 _ ?side1 A32.out).mono ?_); (case side1 => exact Hd.GL.below HGL.out bkB); rintro e w75 ⟨rfl, hb⟩; refine ⟨_, rfl, ?_⟩; replace HB := bkS hb; clear hb; (try clear hb2); (try clear hk); (try clear hi)))
                  go_ret
                  exact ⟨bkE, bkB⟩
                · rw [if_neg c68] at H
                  have c68b0 : (t118 == 0) = false := beq_eq_false_iff_ne.mpr c68
                  have c68b1 : (t118 != 0) = true := bne_iff_ne.mpr c68
                  obtain rfl := Option.some.inj H
                  go_wp2_with (first | ((with_reducible refine gate_callee (f := 11) rfl ?_); refine goesL_ (some 59) rfl rfl Tryz.func11 (by kernel_rfl) rfl #[.string (⟨#[43]⟩ : ByteArray), .string a0, .string a1] rfl bkA ?_; (with_reducible refine (Hd.scalarDyad.calls kj4 (⟨#[43]⟩ : ByteArray) a0 a1 t105 t106 _ ?side1 A26.out).mono ?_); (case side1 => exact Hd.GL.below HGL.out bkB); rintro e w76 ⟨rfl, hb⟩; refine ⟨_, rfl, ?_⟩; replace HB := bkS hb; clear hb; (try clear hb2); (try clear hk); (try clear hi)) | ((with_reducible refine gate_callee (f := 11) rfl ?_); refine goesL_ (some 65) rfl rfl Tryz.func11 (by kernel_rfl) rfl #[.string (⟨#[33]⟩ : ByteArray), .string t105, .string a2] rfl bkA ?_; (with_reducible refine (Hd.scalarDyad.calls kj4 (⟨#[33]⟩ : ByteArray) t105 a2 t107 t108 _ ?side1 A27.out).mono ?_); (case side1 => exact Hd.GL.below HGL.out bkB); rintro e w77 ⟨rfl, hb⟩; refine ⟨_, rfl, ?_⟩; replace HB := bkS hb; clear hb; (try clear hb2); (try clear hk); (try clear hi)) | ((with_reducible refine gate_callee (f := 11) rfl ?_); refine goesL_ (some 71) rfl rfl Tryz.func11 (by kernel_rfl) rfl #[.string (⟨#[33]⟩ : ByteArray), .string a0, .string a2] rfl bkA ?_; (with_reducible refine (Hd.scalarDyad.calls kj4 (⟨#[33]⟩ : ByteArray) a0 a2 t109 t110 _ ?side1 A28.out).mono ?_); (case side1 => exact Hd.GL.below HGL.out bkB); rintro e w78 ⟨rfl, hb⟩; refine ⟨_, rfl, ?_⟩; replace HB := bkS hb; clear hb; (try clear hb2); (try clear hk); (try clear hi)) | ((with_reducible refine gate_callee (f := 11) rfl ?_); refine goesL_ (some 77) rfl rfl Tryz.func11 (by kernel_rfl) rfl #[.string (⟨#[33]⟩ : ByteArray), .string a1, .string a2] rfl bkA ?_; (with_reducible refine (Hd.scalarDyad.calls kj4 (⟨#[33]⟩ : ByteArray) a1 a2 t111 t112 _ ?side1 A29.out).mono ?_); (case side1 => exact Hd.GL.below HGL.out bkB); rintro e w79 ⟨rfl, hb⟩; refine ⟨_, rfl, ?_⟩; replace HB := bkS hb; clear hb; (try clear hb2); (try clear hk); (try clear hi)) | ((with_reducible refine gate_callee (f := 11) rfl ?_); refine goesL_ (some 83) rfl rfl Tryz.func11 (by kernel_rfl) rfl #[.string (⟨#[43]⟩ : ByteArray), .string t109, .string t111] rfl bkA ?_; (with_reducible refine (Hd.scalarDyad.calls kj4 (⟨#[43]⟩ : ByteArray) t109 t111 t113 t114 _ ?side1 A30.out).mono ?_); (case side1 => exact Hd.GL.below HGL.out bkB); rintro e w80 ⟨rfl, hb⟩; refine ⟨_, rfl, ?_⟩; replace HB := bkS hb; clear hb; (try clear hb2); (try clear hk); (try clear hi)) | ((with_reducible refine gate_callee (f := 11) rfl ?_); refine goesL_ (some 89) rfl rfl Tryz.func11 (by kernel_rfl) rfl #[.string (⟨#[33]⟩ : ByteArray), .string t113, .string a2] rfl bkA ?_; (with_reducible refine (Hd.scalarDyad.calls kj4 (⟨#[33]⟩ : ByteArray) t113 a2 t115 t116 _ ?side1 A31.out).mono ?_); (case side1 => exact Hd.GL.below HGL.out bkB); rintro e w81 ⟨rfl, hb⟩; refine ⟨_, rfl, ?_⟩; replace HB := bkS hb; clear hb; (try clear hb2); (try clear hk); (try clear hi)) | ((with_reducible refine gate_callee (f := 11) rfl ?_); refine goesL_ (some 95) rfl rfl Tryz.func11 (by kernel_rfl) rfl #[.string (⟨#[33]⟩ : ByteArray), .string a2, .string a2] rfl bkA ?_; (with_reducible refine (Hd.scalarDyad.calls kj4 (⟨#[33]⟩ : ByteArray) a2 a2 t117 t118 _ ?side1 A32.out).mono ?_); (case side1 => exact Hd.GL.below HGL.out bkB); rintro e w82 ⟨rfl, hb⟩; refine ⟨_, rfl, ?_⟩; replace HB := bkS hb; clear hb; (try clear hb2); (try clear hk); (try clear hi)))
                  go_ret
                  exact ⟨bkE, bkB⟩
            · rw [if_neg c35] at H
              have c35b0 : (t108 == 0) = false := beq_eq_false_iff_ne.mpr c35
              have c35b1 : (t108 != 0) = true := bne_iff_ne.mpr c35
              by_cases c83 : t118 = 0
              · rw [if_pos c83] at H
                have c83b0 : (t118 == 0) = true := beq_iff_eq.mpr c83
                have c83b1 : (t118 != 0) = false := bne_eq_false_iff_eq.mpr c83
                clear c83
                obtain rfl := Option.some.inj H
                go_wp2_with (first | ((with_reducible refine gate_callee (f := 11) rfl ?_); refine goesL_ (some 59) rfl rfl Tryz.func11 (by kernel_rfl) rfl #[.string (⟨#[43]⟩ : ByteArray), .string a0, .string a1] rfl bkA ?_; (with_reducible refine (Hd.scalarDyad.calls kj4 (⟨#[43]⟩ : ByteArray) a0 a1 t105 t106 _ ?side1 A26.out).mono ?_); (case side1 => exact Hd.GL.below HGL.out bkB); rintro e w84 ⟨rfl, hb⟩; refine ⟨_, rfl, ?_⟩; replace HB := bkS hb; clear hb; (try clear hb2); (try clear hk); (try clear hi)) | ((with_reducible refine gate_callee (f := 11) rfl ?_); refine goesL_ (some 65) rfl rfl Tryz.func11 (by kernel_rfl) rfl #[.string (⟨#[33]⟩ : ByteArray), .string t105, .string a2] rfl bkA ?_; (with_reducible refine (Hd.scalarDyad.calls kj4 (⟨#[33]⟩ : ByteArray) t105 a2 t107 t108 _ ?side1 A27.out).mono ?_); (case side1 => exact Hd.GL.below HGL.out bkB); rintro e w85 ⟨rfl, hb⟩; refine ⟨_, rfl, ?_⟩; replace HB := bkS hb; clear hb; (try clear hb2); (try clear hk); (try clear hi)) | ((with_reducible refine gate_callee (f := 11) rfl ?_); refine goesL_ (some 71) rfl rfl Tryz.func11 (by kernel_rfl) rfl #[.string (⟨#[33]⟩ : ByteArray), .string a0, .string a2] rfl bkA ?_; (with_reducible refine (Hd.scalarDyad.calls kj4 (⟨#[33]⟩ : ByteArray) a0 a2 t109 t110 _ ?side1 A28.out).mono ?_); (case side1 => exact Hd.GL.below HGL.out bkB); rintro e w86 ⟨rfl, hb⟩; refine ⟨_, rfl, ?_⟩; replace HB := bkS hb; clear hb; (try clear hb2); (try clear hk); (try clear hi)) | ((with_reducible refine gate_callee (f := 11) rfl ?_); refine goesL_ (some 77) rfl rfl Tryz.func11 (by kernel_rfl) rfl #[.string (⟨#[33]⟩ : ByteArray), .string a1, .string a2] rfl bkA ?_; (with_reducible refine (Hd.scalarDyad.calls kj4 (⟨#[33]⟩ : ByteArray) a1 a2 t111 t112 _ ?side1 A29.out).mono ?_); (case side1 => exact Hd.GL.below HGL.out bkB); rintro e w87 ⟨rfl, hb⟩; refine ⟨_, rfl, ?_⟩; replace HB := bkS hb; clear hb; (try clear hb2); (try clear hk); (try clear hi)) | ((with_reducible refine gate_callee (f := 11) rfl ?_); refine goesL_ (some 83) rfl rfl Tryz.func11 (by kernel_rfl) rfl #[.string (⟨#[43]⟩ : ByteArray), .string t109, .string t111] rfl bkA ?_; (with_reducible refine (Hd.scalarDyad.calls kj4 (⟨#[43]⟩ : ByteArray) t109 t111 t113 t114 _ ?side1 A30.out).mono ?_); (case side1 => exact Hd.GL.below HGL.out bkB); rintro e w88 ⟨rfl, hb⟩; refine ⟨_, rfl, ?_⟩; replace HB := bkS hb; clear hb; (try clear hb2); (try clear hk); (try clear hi)) | ((with_reducible refine gate_callee (f := 11) rfl ?_); refine goesL_ (some 89) rfl rfl Tryz.func11 (by kernel_rfl) rfl #[.string (⟨#[33]⟩ : ByteArray), .string t113, .string a2] rfl bkA ?_; (with_reducible refine (Hd.scalarDyad.calls kj4 (⟨#[33]⟩ : ByteArray) t113 a2 t115 t116 _ ?side1 A31.out).mono ?_); (case side1 => exact Hd.GL.below HGL.out bkB); rintro e w89 ⟨rfl, hb⟩; refine ⟨_, rfl, ?_⟩; replace HB := bkS hb; clear hb; (try clear hb2); (try clear hk); (try clear hi)) | ((with_reducible refine gate_callee (f := 11) rfl ?_); refine goesL_ (some 95) rfl rfl Tryz.func11 (by kernel_rfl) rfl #[.string (⟨#[33]⟩ : ByteArray), .string a2, .string a2] rfl bkA ?_; (with_reducible refine (Hd.scalarDyad.calls kj4 (⟨#[33]⟩ : ByteArray) a2 a2 t117 t118 _ ?side1 A32.out).mono ?_); (case side1 => exact Hd.GL.below HGL.out bkB); rintro e w90 ⟨rfl, hb⟩; refine ⟨_, rfl, ?_⟩; replace HB := bkS hb; clear hb; (try clear hb2); (try clear hk); (try clear hi)))
                go_ret
                exact ⟨bkE, bkB⟩
              · rw [if_neg c83] at H
                have c83b0 : (t118 == 0) = false := beq_eq_false_iff_ne.mpr c83
                have c83b1 : (t118 != 0) = true := bne_iff_ne.mpr c83
                obtain rfl := Option.some.inj H
                go_wp2_with (first | ((with_reducible refine gate_callee (f := 11) rfl ?_); refine goesL_ (some 59) rfl rfl Tryz.func11 (by kernel_rfl) rfl #[.string (⟨#[43]⟩ : ByteArray), .string a0, .string a1] rfl bkA ?_; (with_reducible refine (Hd.scalarDyad.calls kj4 (⟨#[43]⟩ : ByteArray) a0 a1 t105 t106 _ ?side1 A26.out).mono ?_); (case side1 => exact Hd.GL.below HGL.out bkB); rintro e w91 ⟨rfl, hb⟩; refine ⟨_, rfl, ?_⟩; replace HB := bkS hb; clear hb; (try clear hb2); (try clear hk); (try clear hi)) | ((with_reducible refine gate_callee (f := 11) rfl ?_); refine goesL_ (some 65) rfl rfl Tryz.func11 (by kernel_rfl) rfl #[.string (⟨#[33]⟩ : ByteArray), .string t105, .string a2] rfl bkA ?_; (with_reducible refine (Hd.scalarDyad.calls kj4 (⟨#[33]⟩ : ByteArray) t105 a2 t107 t108 _ ?side1 A27.out).mono ?_); (case side1 => exact Hd.GL.below HGL.out bkB); rintro e w92 ⟨rfl, hb⟩; refine ⟨_, rfl, ?_⟩; replace HB := bkS hb; clear hb; (try clear hb2); (try clear hk); (try clear hi)) | ((with_reducible refine gate_callee (f := 11) rfl ?_); refine goesL_ (some 71) rfl rfl Tryz.func11 (by kernel_rfl) rfl #[.string (⟨#[33]⟩ : ByteArray), .string a0, .string a2] rfl bkA ?_; (with_reducible refine (Hd.scalarDyad.calls kj4 (⟨#[33]⟩ : ByteArray) a0 a2 t109 t110 _ ?side1 A28.out).mono ?_); (case side1 => exact Hd.GL.below HGL.out bkB); rintro e w93 ⟨rfl, hb⟩; refine ⟨_, rfl, ?_⟩; replace HB := bkS hb; clear hb; (try clear hb2); (try clear hk); (try clear hi)) | ((with_reducible refine gate_callee (f := 11) rfl ?_); refine goesL_ (some 77) rfl rfl Tryz.func11 (by kernel_rfl) rfl #[.string (⟨#[33]⟩ : ByteArray), .string a1, .string a2] rfl bkA ?_; (with_reducible refine (Hd.scalarDyad.calls kj4 (⟨#[33]⟩ : ByteArray) a1 a2 t111 t112 _ ?side1 A29.out).mono ?_); (case side1 => exact Hd.GL.below HGL.out bkB); rintro e w94 ⟨rfl, hb⟩; refine ⟨_, rfl, ?_⟩; replace HB := bkS hb; clear hb; (try clear hb2); (try clear hk); (try clear hi)) | ((with_reducible refine gate_callee (f := 11) rfl ?_); refine goesL_ (some 83) rfl rfl Tryz.func11 (by kernel_rfl) rfl #[.string (⟨#[43]⟩ : ByteArray), .string t109, .string t111] rfl bkA ?_; (with_reducible refine (Hd.scalarDyad.calls kj4 (⟨#[43]⟩ : ByteArray) t109 t111 t113 t114 _ ?side1 A30.out).mono ?_); (case side1 => exact Hd.GL.below HGL.out bkB); rintro e w95 ⟨rfl, hb⟩; refine ⟨_, rfl, ?_⟩; replace HB := bkS hb; clear hb; (try clear hb2); (try clear hk); (try clear hi)) | ((with_reducible refine gate_callee (f := 11) rfl ?_); refine goesL_ (some 89) rfl rfl Tryz.func11 (by kernel_rfl) rfl #[.string (⟨#[33]⟩ : ByteArray), .string t113, .string a2] rfl bkA ?_; (with_reducible refine (Hd.scalarDyad.calls kj4 (⟨#[33]⟩ : ByteArray) t113 a2 t115 t116 _ ?side1 A31.out).mono ?_); (case side1 => exact Hd.GL.below HGL.out bkB); rintro e w96 ⟨rfl, hb⟩; refine ⟨_, rfl, ?_⟩; replace HB := bkS hb; clear hb; (try clear hb2); (try clear hk); (try clear hi)) | ((with_reducible refine gate_callee (f := 11) rfl ?_); refine goesL_ (some 95) rfl rfl Tryz.func11 (by kernel_rfl) rfl #[.string (⟨#[33]⟩ : ByteArray), .string a2, .string a2] rfl bkA ?_; (with_reducible refine (Hd.scalarDyad.calls kj4 (⟨#[33]⟩ : ByteArray) a2 a2 t117 t118 _ ?side1 A32.out).mono ?_); (case side1 => exact Hd.GL.below HGL.out bkB); rintro e w97 ⟨rfl, hb⟩; refine ⟨_, rfl, ?_⟩; replace HB := bkS hb; clear hb; (try clear hb2); (try clear hk); (try clear hi)))
                go_ret
                exact ⟨bkE, bkB⟩
          · rw [if_neg c34] at H
            have c34b0 : (t106 == 0) = false := beq_eq_false_iff_ne.mpr c34
            have c34b1 : (t106 != 0) = true := bne_iff_ne.mpr c34
            by_cases c98 : t118 = 0
            · rw [if_pos c98] at H
              have c98b0 : (t118 == 0) = true := beq_iff_eq.mpr c98
              have c98b1 : (t118 != 0) = false := bne_eq_false_iff_eq.mpr c98
              clear c98
              obtain rfl := Option.some.inj H
              go_wp2_with (first | ((with_reducible refine gate_callee (f := 11) rfl ?_); refine goesL_ (some 59) rfl rfl Tryz.func11 (by kernel_rfl) rfl #[.string (⟨#[43]⟩ : ByteArray), .string a0, .string a1] rfl bkA ?_; (with_reducible refine (Hd.scalarDyad.calls kj4 (⟨#[43]⟩ : ByteArray) a0 a1 t105 t106 _ ?side1 A26.out).mono ?_); (case side1 => exact Hd.GL.below HGL.out bkB); rintro e w99 ⟨rfl, hb⟩; refine ⟨_, rfl, ?_⟩; replace HB := bkS hb; clear hb; (try clear hb2); (try clear hk); (try clear hi)) | ((with_reducible refine gate_callee (f := 11) rfl ?_); refine goesL_ (some 65) rfl rfl Tryz.func11 (by kernel_rfl) rfl #[.string (⟨#[33]⟩ : ByteArray), .string t105, .string a2] rfl bkA ?_; (with_reducible refine (Hd.scalarDyad.calls kj4 (⟨#[33]⟩ : ByteArray) t105 a2 t107 t108 _ ?side1 A27.out).mono ?_); (case side1 => exact Hd.GL.below HGL.out bkB); rintro e w100 ⟨rfl, hb⟩; refine ⟨_, rfl, ?_⟩; replace HB := bkS hb; clear hb; (try clear hb2); (try clear hk); (try clear hi)) | ((with_reducible refine gate_callee (f := 11) rfl ?_); refine goesL_ (some 71) rfl rfl Tryz.func11 (by kernel_rfl) rfl #[.string (⟨#[33]⟩ : ByteArray), .string a0, .string a2] rfl bkA ?_; (with_reducible refine (Hd.scalarDyad.calls kj4 (⟨#[33]⟩ : ByteArray) a0 a2 t109 t110 _ ?side1 A28.out).mono ?_); (case side1 => exact Hd.GL.below HGL.out bkB); rintro e w101 ⟨rfl, hb⟩; refine ⟨_, rfl, ?_⟩; replace HB := bkS hb; clear hb; (try clear hb2); (try clear hk); (try clear hi)) | ((with_reducible refine gate_callee (f := 11) rfl ?_); refine goesL_ (some 77) rfl rfl Tryz.func11 (by kernel_rfl) rfl #[.string (⟨#[33]⟩ : ByteArray), .string a1, .string a2] rfl bkA ?_; (with_reducible refine (Hd.scalarDyad.calls kj4 (⟨#[33]⟩ : ByteArray) a1 a2 t111 t112 _ ?side1 A29.out).mono ?_); (case side1 => exact Hd.GL.below HGL.out bkB); rintro e w102 ⟨rfl, hb⟩; refine ⟨_, rfl, ?_⟩; replace HB := bkS hb; clear hb; (try clear hb2); (try clear hk); (try clear hi)) | ((with_reducible refine gate_callee (f := 11) rfl ?_); refine goesL_ (some 83) rfl rfl Tryz.func11 (by kernel_rfl) rfl #[.string (⟨#[43]⟩ : ByteArray), .string t109, .string t111] rfl bkA ?_; (with_reducible refine (Hd.scalarDyad.calls kj4 (⟨#[43]⟩ : ByteArray) t109 t111 t113 t114 _ ?side1 A30.out).mono ?_); (case side1 => exact Hd.GL.below HGL.out bkB); rintro e w103 ⟨rfl, hb⟩; refine ⟨_, rfl, ?_⟩; replace HB := bkS hb; clear hb; (try clear hb2); (try clear hk); (try clear hi)) | ((with_reducible refine gate_callee (f := 11) rfl ?_); refine goesL_ (some 89) rfl rfl Tryz.func11 (by kernel_rfl) rfl #[.string (⟨#[33]⟩ : ByteArray), .string t113, .string a2] rfl bkA ?_; (with_reducible refine (Hd.scalarDyad.calls kj4 (⟨#[33]⟩ : ByteArray) t113 a2 t115 t116 _ ?side1 A31.out).mono ?_); (case side1 => exact Hd.GL.below HGL.out bkB); rintro e w104 ⟨rfl, hb⟩; refine ⟨_, rfl, ?_⟩; replace HB := bkS hb; clear hb; (try clear hb2); (try clear hk); (try clear hi)) | ((with_reducible refine gate_callee (f := 11) rfl ?_); refine goesL_ (some 95) rfl rfl Tryz.func11 (by kernel_rfl) rfl #[.string (⟨#[33]⟩ : ByteArray), .string a2, .string a2] rfl bkA ?_; (with_reducible refine (Hd.scalarDyad.calls kj4 (⟨#[33]⟩ : ByteArray) a2 a2 t117 t118 _ ?side1 A32.out).mono ?_); (case side1 => exact Hd.GL.below HGL.out bkB); rintro e w105 ⟨rfl, hb⟩; refine ⟨_, rfl, ?_⟩; replace HB := bkS hb; clear hb; (try clear hb2); (try clear hk); (try clear hi)))
              go_ret
              exact ⟨bkE, bkB⟩
            · rw [if_neg c98] at H
              have c98b0 : (t118 == 0) = false := beq_eq_false_iff_ne.mpr c98
              have c98b1 : (t118 != 0) = true := bne_iff_ne.mpr c98
              obtain rfl := Option.some.inj H
              go_wp2_with (first | ((with_reducible refine gate_callee (f := 11) rfl ?_); refine goesL_ (some 59) rfl rfl Tryz.func11 (by kernel_rfl) rfl #[.string (⟨#[43]⟩ : ByteArray), .string a0, .string a1] rfl bkA ?_; (with_reducible refine (Hd.scalarDyad.calls kj4 (⟨#[43]⟩ : ByteArray) a0 a1 t105 t106 _ ?side1 A26.out).mono ?_); (case side1 => exact Hd.GL.below HGL.out bkB); rintro e w106 ⟨rfl, hb⟩; refine ⟨_, rfl, ?_⟩; replace HB := bkS hb; clear hb; (try clear hb2); (try clear hk); (try clear hi)) | ((with_reducible refine gate_callee (f := 11) rfl ?_); refine goesL_ (some 65) rfl rfl Tryz.func11 (by kernel_rfl) rfl #[.string (⟨#[33]⟩ : ByteArray), .string t105, .string a2] rfl bkA ?_; (with_reducible refine (Hd.scalarDyad.calls kj4 (⟨#[33]⟩ : ByteArray) t105 a2 t107 t108 _ ?side1 A27.out).mono ?_); (case side1 => exact Hd.GL.below HGL.out bkB); rintro e w107 ⟨rfl, hb⟩; refine ⟨_, rfl, ?_⟩; replace HB := bkS hb; clear hb; (try clear hb2); (try clear hk); (try clear hi)) | ((with_reducible refine gate_callee (f := 11) rfl ?_); refine goesL_ (some 71) rfl rfl Tryz.func11 (by kernel_rfl) rfl #[.string (⟨#[33]⟩ : ByteArray), .string a0, .string a2] rfl bkA ?_; (with_reducible refine (Hd.scalarDyad.calls kj4 (⟨#[33]⟩ : ByteArray) a0 a2 t109 t110 _ ?side1 A28.out).mono ?_); (case side1 => exact Hd.GL.below HGL.out bkB); rintro e w108 ⟨rfl, hb⟩; refine ⟨_, rfl, ?_⟩; replace HB := bkS hb; clear hb; (try clear hb2); (try clear hk); (try clear hi)) | ((with_reducible refine gate_callee (f := 11) rfl ?_); refine goesL_ (some 77) rfl rfl Tryz.func11 (by kernel_rfl) rfl #[.string (⟨#[33]⟩ : ByteArray), .string a1, .string a2] rfl bkA ?_; (with_reducible refine (Hd.scalarDyad.calls kj4 (⟨#[33]⟩ : ByteArray) a1 a2 t111 t112 _ ?side1 A29.out).mono ?_); (case side1 => exact Hd.GL.below HGL.out bkB); rintro e w109 ⟨rfl, hb⟩; refine ⟨_, rfl, ?_⟩; replace HB := bkS hb; clear hb; (try clear hb2); (try clear hk); (try clear hi)) | ((with_reducible refine gate_callee (f := 11) rfl ?_); refine goesL_ (some 83) rfl rfl Tryz.func11 (by kernel_rfl) rfl #[.string (⟨#[43]⟩ : ByteArray), .string t109, .string t111] rfl bkA ?_; (with_reducible refine (Hd.scalarDyad.calls kj4 (⟨#[43]⟩ : ByteArray) t109 t111 t113 t114 _ ?side1 A30.out).mono ?_); (case side1 => exact Hd.GL.below HGL.out bkB); rintro e w110 ⟨rfl, hb⟩; refine ⟨_, rfl, ?_⟩; replace HB := bkS hb; clear hb; (try clear hb2); (try clear hk); (try clear hi)) | ((with_reducible refine gate_callee (f := 11) rfl ?_); refine goesL_ (some 89) rfl rfl Tryz.func11 (by kernel_rfl) rfl #[.string (⟨#[33]⟩ : ByteArray), .string t113, .string a2] rfl bkA ?_; (with_reducible refine (Hd.scalarDyad.calls kj4 (⟨#[33]⟩ : ByteArray) t113 a2 t115 t116 _ ?side1 A31.out).mono ?_); (case side1 => exact Hd.GL.below HGL.out bkB); rintro e w111 ⟨rfl, hb⟩; refine ⟨_, rfl, ?_⟩; replace HB := bkS hb; clear hb; (try clear hb2); (try clear hk); (try clear hi)) | ((with_reducible refine gate_callee (f := 11) rfl ?_); refine goesL_ (some 95) rfl rfl Tryz.func11 (by kernel_rfl) rfl #[.string (⟨#[33]⟩ : ByteArray), .string a2, .string a2] rfl bkA ?_; (with_reducible refine (Hd.scalarDyad.calls kj4 (⟨#[33]⟩ : ByteArray) a2 a2 t117 t118 _ ?side1 A32.out).mono ?_); (case side1 => exact Hd.GL.below HGL.out bkB); rintro e w112 ⟨rfl, hb⟩; refine ⟨_, rfl, ?_⟩; replace HB := bkS hb; clear hb; (try clear hb2); (try clear hk); (try clear hi)))
              go_ret
              exact ⟨bkE, bkB⟩
        · replace c33 := Bool.eq_false_iff.mpr c33
          subst c33
          rw [if_neg Bool.false_ne_true] at H
          obtain rfl := Option.some.inj H
          go_wp2_with (first | ((with_reducible refine gate_callee (f := 11) rfl ?_); refine goesL_ (some 59) rfl rfl Tryz.func11 (by kernel_rfl) rfl #[.string (⟨#[43]⟩ : ByteArray), .string a0, .string a1] rfl bkA ?_; (with_reducible refine (Hd.scalarDyad.calls kj4 (⟨#[43]⟩ : ByteArray) a0 a1 t105 t106 _ ?side1 A26.out).mono ?_); (case side1 => exact Hd.GL.below HGL.out bkB); rintro e w113 ⟨rfl, hb⟩; refine ⟨_, rfl, ?_⟩; replace HB := bkS hb; clear hb; (try clear hb2); (try clear hk); (try clear hi)) | ((with_reducible refine gate_callee (f := 11) rfl ?_); refine goesL_ (some 65) rfl rfl Tryz.func11 (by kernel_rfl) rfl #[.string (⟨#[33]⟩ : ByteArray), .string t105, .string a2] rfl bkA ?_; (with_reducible refine (Hd.scalarDyad.calls kj4 (⟨#[33]⟩ : ByteArray) t105 a2 t107 t108 _ ?side1 A27.out).mono ?_); (case side1 => exact Hd.GL.below HGL.out bkB); rintro e w114 ⟨rfl, hb⟩; refine ⟨_, rfl, ?_⟩; replace HB := bkS hb; clear hb; (try clear hb2); (try clear hk); (try clear hi)) | ((with_reducible refine gate_callee (f := 11) rfl ?_); refine goesL_ (some 71) rfl rfl Tryz.func11 (by kernel_rfl) rfl #[.string (⟨#[33]⟩ : ByteArray), .string a0, .string a2] rfl bkA ?_; (with_reducible refine (Hd.scalarDyad.calls kj4 (⟨#[33]⟩ : ByteArray) a0 a2 t109 t110 _ ?side1 A28.out).mono ?_); (case side1 => exact Hd.GL.below HGL.out bkB); rintro e w115 ⟨rfl, hb⟩; refine ⟨_, rfl, ?_⟩; replace HB := bkS hb; clear hb; (try clear hb2); (try clear hk); (try clear hi)) | ((with_reducible refine gate_callee (f := 11) rfl ?_); refine goesL_ (some 77) rfl rfl Tryz.func11 (by kernel_rfl) rfl #[.string (⟨#[33]⟩ : ByteArray), .string a1, .string a2] rfl bkA ?_; (with_reducible refine (Hd.scalarDyad.calls kj4 (⟨#[33]⟩ : ByteArray) a1 a2 t111 t112 _ ?side1 A29.out).mono ?_); (case side1 => exact Hd.GL.below HGL.out bkB); rintro e w116 ⟨rfl, hb⟩; refine ⟨_, rfl, ?_⟩; replace HB := bkS hb; clear hb; (try clear hb2); (try clear hk); (try clear hi)) | ((with_reducible refine gate_callee (f := 11) rfl ?_); refine goesL_ (some 83) rfl rfl Tryz.func11 (by kernel_rfl) rfl #[.string (⟨#[43]⟩ : ByteArray), .string t109, .string t111] rfl bkA ?_; (with_reducible refine (Hd.scalarDyad.calls kj4 (⟨#[43]⟩ : ByteArray) t109 t111 t113 t114 _ ?side1 A30.out).mono ?_); (case side1 => exact Hd.GL.below HGL.out bkB); rintro e w117 ⟨rfl, hb⟩; refine ⟨_, rfl, ?_⟩; replace HB := bkS hb; clear hb; (try clear hb2); (try clear hk); (try clear hi)) | ((with_reducible refine gate_callee (f := 11) rfl ?_); refine goesL_ (some 89) rfl rfl Tryz.func11 (by kernel_rfl) rfl #[.string (⟨#[33]⟩ : ByteArray), .string t113, .string a2] rfl bkA ?_; (with_reducible refine (Hd.scalarDyad.calls kj4 (⟨#[33]⟩ : ByteArray) t113 a2 t115 t116 _ ?side1 A31.out).mono ?_); (case side1 => exact Hd.GL.below HGL.out bkB); rintro e w118 ⟨rfl, hb⟩; refine ⟨_, rfl, ?_⟩; replace HB := bkS hb; clear hb; (try clear hb2); (try clear hk); (try clear hi)) | ((with_reducible refine gate_callee (f := 11) rfl ?_); refine goesL_ (some 95) rfl rfl Tryz.func11 (by kernel_rfl) rfl #[.string (⟨#[33]⟩ : ByteArray), .string a2, .string a2] rfl bkA ?_; (with_reducible refine (Hd.scalarDyad.calls kj4 (⟨#[33]⟩ : ByteArray) a2 a2 t117 t118 _ ?side1 A32.out).mono ?_); (case side1 => exact Hd.GL.below HGL.out bkB); rintro e w119 ⟨rfl, hb⟩; refine ⟨_, rfl, ?_⟩; replace HB := bkS hb; clear hb; (try clear hb2); (try clear hk); (try clear hi)))
          go_ret
          exact ⟨bkE, bkB⟩
/-- THE ONE PURE STATEMENT of reredoslaw12_ScalarMod: yours. -/
def reredoslaw12_ScalarMod.Pure : Prop := ∀ (a0 : ByteArray) (a1 : ByteArray) (a2 : ByteArray), a0.size ≤ 140737488351232 → a1.size ≤ 140737488351232 → a2.size ≤ 140737488351232 → ∃ k, reredoslaw12_ScalarMod.f k a0 a1 a2 = some true
theorem reredoslaw12_ScalarMod.walk (P : reredoslaw12_ScalarMod.Pure) (a0 : ByteArray) (a1 : ByteArray) (a2 : ByteArray) (w : World) (w0 : a0.size ≤ 140737488351232) (w1 : a1.size ≤ 140737488351232) (w2 : a2.size ≤ 140737488351232) (hG : Hd.GL w) :
    Calls Tryz.prog 4 #[.string a0, .string a1, .string a2] w fun e w' => e = .returned (.bool true) ∧ Below w.heap.size w w' := by
  obtain ⟨k, h⟩ := P a0 a1 a2 w0 w1 w2
  refine (reredoslaw12_ScalarMod.calls k a0 a1 a2 true w hG h).mono ?_
  rintro e w' ⟨rfl, hd⟩
  exact ⟨rfl, hd⟩
end Go.Proofs.YtaidmohjnbibiaaGreatDoor.LScalarMod
end
