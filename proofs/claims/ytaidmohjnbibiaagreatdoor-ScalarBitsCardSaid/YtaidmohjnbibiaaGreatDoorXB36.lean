/- What the law leans on, part 37: declarations of several texts of ours, in their order. -/
import Derived.Test.YtaidmohjnbibiaaGreatDoorXB35
section
namespace Go.Proofs.YtaidmohjnbibiaaGreatDoor.LScalarBits
open Go.RowKit Go.Proofs.YtaidmohjnbibiaaGreatDoorW.PrintWords Go.Proofs.YtaidmohjnbibiaaGreatDoorW.PrintLast Go.Proofs.YtaidmohjnbibiaaGreatDoorW.PrintMore Go.Proofs.YtaidmohjnbibiaaGreatDoor.B Go.Proofs.YtaidmohjnbibiaaGreatDoor.K Go.Proofs.YtaidmohjnbibiaaGreatDoor.L Go.Proofs.YtaidmohjnbibiaaGreatDoor.M Go.Proofs.YtaidmohjnbibiaaGreatDoor.SC Go.Proofs.YtaidmohjnbibiaaGreatDoor.SL
attribute [local go_sem] max2_int min2_int max_two min_two max_three min_three max_four min_four
set_option linter.unusedVariables false
set_option linter.unusedSimpArgs false
/-! ### reredoslaw12_ScalarBits: function 6 -/
def reredoslaw12_ScalarBits.j0 : Nat → ByteArray → Bool → Bool → Option (Bool)
  | 0, _, _, _ => none
  | k + 1, x0, x3, x22 => if x22 = true then (some x3) else ((Hd.scalarMonad.f k (⟨#[126]⟩ : ByteArray) x0).bind fun bt103 => ((Hd.scalarMonad.f k (⟨#[126]⟩ : ByteArray) bt103.1).bind fun bt105 => ((Hd.scalarMonad.f k (⟨#[42]⟩ : ByteArray) x0).bind fun bt107 => ((Hd.scalarDyad.f k (⟨#[42]⟩ : ByteArray) bt107.1 bt107.1).bind fun bt109 => ((Hd.scalarDyad.f k (⟨#[126]⟩ : ByteArray) x0 (⟨#[48]⟩ : ByteArray)).bind fun bt111 => (if x3 = true then (if bt103.1.toList = ([48] : List UInt8) then (if bt105.1.toList = ([48] : List UInt8) then (if bt105.1.toList = bt103.1.toList then (some false) else (if bt109.1.toList = bt105.1.toList then (some (bt111.1.toList == bt105.1.toList)) else (some false))) else (if bt105.1.toList = ([49] : List UInt8) then (if bt105.1.toList = bt103.1.toList then (some false) else (if bt109.1.toList = bt105.1.toList then (some (bt111.1.toList == bt105.1.toList)) else (some false))) else (some false))) else (if bt103.1.toList = ([49] : List UInt8) then (if bt105.1.toList = ([48] : List UInt8) then (if bt105.1.toList = bt103.1.toList then (some false) else (if bt109.1.toList = bt105.1.toList then (some (bt111.1.toList == bt105.1.toList)) else (some false))) else (if bt105.1.toList = ([49] : List UInt8) then (if bt105.1.toList = bt103.1.toList then (some false) else (if bt109.1.toList = bt105.1.toList then (some (bt111.1.toList == bt105.1.toList)) else (some false))) else (some false))) else (some false))) else (some false)))))))
def reredoslaw12_ScalarBits.f (k : Nat) (a0 : ByteArray) : Option (Bool) := (SL.reredoslaw12_shown.f k).bind fun t101 => (if (a0.size : Int) > 200 then (reredoslaw12_ScalarBits.j0 k a0 t101 true) else ((Go.Proofs.YtaidmohjnbibiaaGreatDoor.K.num_May.f a0).bind fun t102 => (reredoslaw12_ScalarBits.j0 k a0 t101 (!t102))))
theorem reredoslaw12_ScalarBits.mono_l : ∀ k, (∀ y0 y1 y2, LeO (reredoslaw12_ScalarBits.j0 k y0 y1 y2) (reredoslaw12_ScalarBits.j0 (k + 1) y0 y1 y2))
  | 0 => fun _ _ _ r h => by simp [reredoslaw12_ScalarBits.j0] at h
  | k + 1 => by
    have ih0 := reredoslaw12_ScalarBits.mono_l k
    · intro y0 y1 y2
      unfold reredoslaw12_ScalarBits.j0
      repeat' first
      | (with_reducible exact ih0 _ _ _)
      | (with_reducible exact Hd.scalarDyad.mono _ _ _ _)
      | (with_reducible exact Hd.scalarMonad.mono _ _ _)
      | (with_reducible exact SL.reredoslaw12_shown.mono _)
      | (with_reducible exact LeO.refl _)
      | (with_reducible exact LeO.none _)
      | (with_reducible refine LeO.ite ?_ ?_)
      | (with_reducible refine LeO.bind ?_ (fun _ => ?_))
      | exact ih0 _ _ _
      | exact Hd.scalarDyad.mono _ _ _ _
      | exact Hd.scalarMonad.mono _ _ _
      | exact SL.reredoslaw12_shown.mono _
      | exact LeO.none _
      | refine LeO.ite ?_ ?_
      | refine LeO.bind ?_ (fun _ => ?_)
theorem reredoslaw12_ScalarBits.mono : ∀ a0 k, LeO (reredoslaw12_ScalarBits.f k a0) (reredoslaw12_ScalarBits.f (k + 1) a0) := by
  intro a0 k
  have ih0 := reredoslaw12_ScalarBits.mono_l k
  unfold reredoslaw12_ScalarBits.f
  repeat' first
      | (with_reducible exact ih0 _ _ _)
      | (with_reducible exact Hd.scalarDyad.mono _ _ _ _)
      | (with_reducible exact Hd.scalarMonad.mono _ _ _)
      | (with_reducible exact SL.reredoslaw12_shown.mono _)
      | (with_reducible exact LeO.refl _)
      | (with_reducible exact LeO.none _)
      | (with_reducible refine LeO.ite ?_ ?_)
      | (with_reducible refine LeO.bind ?_ (fun _ => ?_))
      | exact ih0 _ _ _
      | exact Hd.scalarDyad.mono _ _ _ _
      | exact Hd.scalarMonad.mono _ _ _
      | exact SL.reredoslaw12_shown.mono _
      | exact LeO.none _
      | refine LeO.ite ?_ ?_
      | refine LeO.bind ?_ (fun _ => ?_)
set_option maxHeartbeats 8000000 in
set_option maxRecDepth 100000 in
theorem reredoslaw12_ScalarBits.calls (k : Nat) (a0 : ByteArray) (r : Bool) (w : World) (hG : Hd.GL w) (h : reredoslaw12_ScalarBits.f k a0 = some r) :
    Calls Tryz.prog 6 #[.string a0] w fun e w' => e = .returned (.bool r) ∧ Below w.heap.size w w' := by
  have HGL := Aside0.mk hG
  clear hG
  have HB := Aside0.mk (Below.refl w.heap.size w)
  have H : ((SL.reredoslaw12_shown.f k).bind fun t101 => (if (a0.size : Int) > 200 then (reredoslaw12_ScalarBits.j0 k a0 t101 true) else ((Go.Proofs.YtaidmohjnbibiaaGreatDoor.K.num_May.f a0).bind fun t102 => (reredoslaw12_ScalarBits.j0 k a0 t101 (!t102))))) = some r := h
  clear h
  obtain ⟨t101, A20, H⟩ := Option.bind_eq_some_iff.mp H
  try dsimp only at H
  have A2 := Aside0.mk A20
  clear A20
  have HC3 := Aside0.mk H
  clear H
  go_enter Tryz.func6, Tryz.ntmps6
  go_upto_region 2 with (first | ((with_reducible refine gate_callee (f := 9) rfl ?_); refine goesL_ (some 14) rfl rfl Tryz.func9 (by kernel_rfl) rfl #[] rfl bkA ?_; (with_reducible refine (SL.reredoslaw12_shown.calls k  t101 _ ?side1 A2.out).mono ?_); (case side1 => exact Hd.GL.below HGL.out bkB); rintro e w4 ⟨rfl, hb⟩; refine ⟨_, rfl, ?_⟩; replace HB := bkS hb; clear hb; (try clear hb2); (try clear hk); (try clear hi)))
  (try simp only [Act.put, List.setIfInBounds_toArray, List.set_cons_zero, List.set_cons_succ])
  go_cut [22] (fun v22 wc => ∃ (kq : Nat) (x22_2 : Bool), v22 = .bool x22_2 ∧ Aside0 (reredoslaw12_ScalarBits.j0 kq a0 t101 x22_2 = some r) ∧ Aside0 (kq ≤ k) ∧ Aside0 (Below w.heap.size w wc))
  case first =>
    have H := HC3.out
    clear HC3
    by_cases c5 : (a0.size : Int) > 200
    · rw [if_pos c5] at H
      have c5b0 : decide (200 < (a0.size : Int)) = true := decide_eq_true c5
      have c5b1 : decide (200 < a0.size) = true := decide_eq_true (by omega)
      clear c5
      (first | rw [c5b0] | (simp only [i64_w, i32_w]; rw [c5b0]) | skip)
      have H' := Aside0.mk H
      clear H
      go_wp2
      go_meet
      case rel => exact ⟨_, (true), bkF, H', ⟨by first | omega | exact Nat.le_refl _⟩, ⟨bkB⟩⟩
    · rw [if_neg c5] at H
      have c5b0 : decide (200 < (a0.size : Int)) = false := decide_eq_false c5
      have c5b1 : decide (200 < a0.size) = false := decide_eq_false (by omega)
      clear c5
      (first | rw [c5b0] | (simp only [i64_w, i32_w]; rw [c5b0]) | skip)
      obtain ⟨t102, A60, H⟩ := Option.bind_eq_some_iff.mp H
      try dsimp only at H
      have A6 := Aside0.mk A60
      clear A60
      have H' := Aside0.mk H
      clear H
      go_wp2_with (first | (go_at_call 10; (with_reducible refine (Go.Proofs.YtaidmohjnbibiaaGreatDoor.K.num_May.calls a0 t102 _ A6.out).mono ?_); rintro e w7 ⟨rfl, hb⟩; replace HB := bkS hb; clear hb; (try clear hb2); (try clear hk); (try clear hi)))
      go_meet
      case rel => exact ⟨_, (!t102), bkF, H', ⟨by first | omega | exact Nat.le_refl _⟩, ⟨bkB⟩⟩
  case rest =>
    clear HC3
    try clear p2
    try clear c5
    try clear c5b0
    try clear c5b1
    try clear c6
    obtain ⟨kq, x22_2, rfl, HA, HJ2, HB⟩ := hcut
    cases kq with
    | zero => exact absurd HA.out (by simp [reredoslaw12_ScalarBits.j0])
    | succ kj2 =>
      have H := HA.out
      clear HA
      simp only [reredoslaw12_ScalarBits.j0] at H
      by_cases c8 : x22_2 = true
      · subst c8
        rw [if_pos rfl] at H
        obtain rfl := Option.some.inj H
        go_wp2
        go_ret
        exact ⟨bkE, bkB⟩
      · replace c8 := Bool.eq_false_iff.mpr c8
        subst c8
        rw [if_neg Bool.false_ne_true] at H
        obtain ⟨⟨t103, t104⟩, A90, H⟩ := Option.bind_eq_some_iff.mp H
        try dsimp only at H
        have A9 := Aside0.mk A90
        clear A90
        obtain ⟨⟨t105, t106⟩, A100, H⟩ := Option.bind_eq_some_iff.mp H
        try dsimp only at H
        have A10 := Aside0.mk A100
        clear A100
        obtain ⟨⟨t107, t108⟩, A110, H⟩ := Option.bind_eq_some_iff.mp H
        try dsimp only at H
        have A11 := Aside0.mk A110
        clear A110
        obtain ⟨⟨t109, t110⟩, A120, H⟩ := Option.bind_eq_some_iff.mp H
        try dsimp only at H
        have A12 := Aside0.mk A120
        clear A120
        obtain ⟨⟨t111, t112⟩, A130, H⟩ := Option.bind_eq_some_iff.mp H
        try dsimp only at H
        have A13 := Aside0.mk A130
        clear A130
        by_cases c14 : t101 = true
        · subst c14
          rw [if_pos rfl] at H
          by_cases c15 : t103.toList = ([48] : List UInt8)
          · rw [if_pos c15] at H
            have c15b0 : (t103.toList == ([48] : List UInt8)) = true := beq_iff_eq.mpr c15
            have c15b1 : (t103.toList != ([48] : List UInt8)) = false := bne_eq_false_iff_eq.mpr c15
            clear c15
            by_cases c16 : t105.toList = ([48] : List UInt8)
            · rw [if_pos c16] at H
              have c16b0 : (t105.toList == ([48] : List UInt8)) = true := beq_iff_eq.mpr c16
              have c16b1 : (t105.toList != ([48] : List UInt8)) = false := bne_eq_false_iff_eq.mpr c16
              clear c16
              by_cases c17 : t105.toList = t103.toList
              · rw [if_pos c17] at H
                have c17b0 : (t105.toList == t103.toList) = true := beq_iff_eq.mpr c17
                have c17b1 : (t105.toList != t103.toList) = false := bne_eq_false_iff_eq.mpr c17
                clear c17
                obtain rfl := Option.some.inj H
                go_wp2_with (first | ((with_reducible refine gate_callee (f := 14) rfl ?_); refine goesL_ (some 26) rfl rfl Tryz.func14 (by kernel_rfl) rfl #[.string (⟨#[126]⟩ : ByteArray), .string a0] rfl bkA ?_; (with_reducible refine (Hd.scalarMonad.calls kj2 (⟨#[126]⟩ : ByteArray) a0 t103 t104 _ ?side1 A9.out).mono ?_); (case side1 => exact Hd.GL.below HGL.out bkB); rintro e w18 ⟨rfl, hb⟩; refine ⟨_, rfl, ?_⟩; replace HB := bkS hb; clear hb; (try clear hb2); (try clear hk); (try clear hi)) | ((with_reducible refine gate_callee (f := 14) rfl ?_); refine goesL_ (some 31) rfl rfl Tryz.func14 (by kernel_rfl) rfl #[.string (⟨#[126]⟩ : ByteArray), .string t103] rfl bkA ?_; (with_reducible refine (Hd.scalarMonad.calls kj2 (⟨#[126]⟩ : ByteArray) t103 t105 t106 _ ?side1 A10.out).mono ?_); (case side1 => exact Hd.GL.below HGL.out bkB); rintro e w19 ⟨rfl, hb⟩; refine ⟨_, rfl, ?_⟩; replace HB := bkS hb; clear hb; (try clear hb2); (try clear hk); (try clear hi)) | ((with_reducible refine gate_callee (f := 14) rfl ?_); refine goesL_ (some 36) rfl rfl Tryz.func14 (by kernel_rfl) rfl #[.string (⟨#[42]⟩ : ByteArray), .string a0] rfl bkA ?_; (with_reducible refine (Hd.scalarMonad.calls kj2 (⟨#[42]⟩ : ByteArray) a0 t107 t108 _ ?side1 A11.out).mono ?_); (case side1 => exact Hd.GL.below HGL.out bkB); rintro e w20 ⟨rfl, hb⟩; refine ⟨_, rfl, ?_⟩; replace HB := bkS hb; clear hb; (try clear hb2); (try clear hk); (try clear hi)) | ((with_reducible refine gate_callee (f := 11) rfl ?_); refine goesL_ (some 42) rfl rfl Tryz.func11 (by kernel_rfl) rfl #[.string (⟨#[42]⟩ : ByteArray), .string t107, .string t107] rfl bkA ?_; (with_reducible refine (Hd.scalarDyad.calls kj2 (⟨#[42]⟩ : ByteArray) t107 t107 t109 t110 _ ?side1 A12.out).mono ?_); (case side1 => exact Hd.GL.below HGL.out bkB); rintro e w21 ⟨rfl, hb⟩; refine ⟨_, rfl, ?_⟩; replace HB := bkS hb; clear hb; (try clear hb2); (try clear hk); (try clear hi)) | ((with_reducible refine gate_callee (f := 11) rfl ?_); refine goesL_ (some 47) rfl rfl Tryz.func11 (by kernel_rfl) rfl #[.string (⟨#[126]⟩ : ByteArray), .string a0, .string (⟨#[48]⟩ : ByteArray)] rfl bkA ?_; (with_reducible refine (Hd.scalarDyad.calls kj2 (⟨#[126]⟩ : ByteArray) a0 (⟨#[48]⟩ : ByteArray) t111 t112 _ ?side1 A13.out).mono ?_); (case side1 => exact Hd.GL.below HGL.out bkB); rintro e w22 ⟨rfl, hb⟩; refine ⟨_, rfl, ?_⟩; replace HB := bkS hb; clear hb; (try clear hb2); (try clear hk); (try clear hi)))
                go_ret
                exact ⟨bkE, bkB⟩
              · rw [if_neg c17] at H
                have c17b0 : (t105.toList == t103.toList) = false := beq_eq_false_iff_ne.mpr c17
                have c17b1 : (t105.toList != t103.toList) = true := bne_iff_ne.mpr c17
                by_cases c23 : t109.toList = t105.toList
                · rw [if_pos c23] at H
                  have c23b0 : (t109.toList == t105.toList) = true := beq_iff_eq.mpr c23
                  have c23b1 : (t109.toList != t105.toList) = false := bne_eq_false_iff_eq.mpr c23
                  clear c23
                  obtain rfl := Option.some.inj H
                  go_wp2_with (first | ((with_reducible refine gate_callee (f := 14) rfl ?_); refine goesL_ (some 26) rfl rfl Tryz.func14 (by kernel_rfl) rfl #[.string (⟨#[126]⟩ : ByteArray), .string a0] rfl bkA ?_; (with_reducible refine (Hd.scalarMonad.calls kj2 (⟨#[126]⟩ : ByteArray) a0 t103 t104 _ ?side1 A9.out).mono ?_); (case side1 => exact Hd.GL.below HGL.out bkB); rintro e w24 ⟨rfl, hb⟩; refine ⟨_, rfl, ?_⟩; replace HB := bkS hb; clear hb; (try clear hb2); (try clear hk); (try clear hi)) | ((with_reducible refine gate_callee (f := 14) rfl ?_); refine goesL_ (some 31) rfl rfl Tryz.func14 (by kernel_rfl) rfl #[.string (⟨#[126]⟩ : ByteArray), .string t103] rfl bkA ?_; (with_reducible refine (Hd.scalarMonad.calls kj2 (⟨#[126]⟩ : ByteArray) t103 t105 t106 _ ?side1 A10.out).mono ?_); (case side1 => exact Hd.GL.below HGL.out bkB); rintro e w25 ⟨rfl, hb⟩; refine ⟨_, rfl, ?_⟩; replace HB := bkS hb; clear hb; (try clear hb2); (try clear hk); (try clear hi)) | ((with_reducible refine gate_callee (f := 14) rfl ?_); refine goesL_ (some 36) rfl rfl Tryz.func14 (by kernel_rfl) rfl #[.string (⟨#[42]⟩ : ByteArray), .string a0] rfl bkA ?_; (with_reducible refine (Hd.scalarMonad.calls kj2 (⟨#[42]⟩ : ByteArray) a0 t107 t108 _ ?side1 A11.out).mono ?_); (case side1 => exact Hd.GL.below HGL.out bkB); rintro e w26 ⟨rfl, hb⟩; refine ⟨_, rfl, ?_⟩; replace HB := bkS hb; clear hb; (try clear hb2); (try clear hk); (try clear hi)) | ((with_reducible refine gate_callee (f := 11) rfl ?_); refine goesL_ (some 42) rfl rfl Tryz.func11 (by kernel_rfl) rfl #[.string (⟨#[42]⟩ : ByteArray), .string t107, .string t107] rfl bkA ?_; (with_reducible refine (Hd.scalarDyad.calls kj2 (⟨#[42]⟩ : ByteArray) t107 t107 t109 t110 _ ?side1 A12.out).mono ?_); (case side1 => exact Hd.GL.below HGL.out bkB); rintro e w27 ⟨rfl, hb⟩; refine ⟨_, rfl, ?_⟩; replace HB := bkS hb; clear hb; (try clear hb2); (try clear hk); (try clear hi)) | ((with_reducible refine gate_callee (f := 11) rfl ?_); refine goesL_ (some 47) rfl rfl Tryz.func11 (by kernel_rfl) rfl #[.string (⟨#[126]⟩ : ByteArray), .string a0, .string (⟨#[48]⟩ : ByteArray)] rfl bkA ?_; (with_reducible refine (Hd.scalarDyad.calls kj2 (⟨#[126]⟩ : ByteArray) a0 (⟨#[48]⟩ : ByteArray) t111 t112 _ ?side1 A13.out).mono ?_); (case side1 => exact Hd.GL.below HGL.out bkB); rintro e w28 ⟨rfl, hb⟩; refine ⟨_, rfl, ?_⟩; replace HB := bkS hb; clear hb; (try clear hb2); (try clear hk); (try clear hi)))
                  go_ret
                  exact ⟨bkE, bkB⟩
                · rw [if_neg c23] at H
                  have c23b0 : (t109.toList == t105.toList) = false := beq_eq_false_iff_ne.mpr c23
                  have c23b1 : (t109.toList != t105.toList) = true := bne_iff_ne.mpr c23
                  obtain rfl := Option.some.inj H
                  go_wp2_with (first | ((with_reducible refine gate_callee (f := 14) rfl ?_); refine goesL_ (some 26) rfl rfl Tryz.func14 (by kernel_rfl) rfl #[.string (⟨#[126]⟩ : ByteArray), .string a0] rfl bkA ?_; (with_reducible refine (Hd.scalarMonad.calls kj2 (⟨#[126]⟩ : ByteArray) a0 t103 t104 _ ?side1 A9.out).mono ?_); (case side1 => exact Hd.GL.below HGL.out bkB); rintro e w29 ⟨rfl, hb⟩; refine ⟨_, rfl, ?_⟩; replace HB := bkS hb; clear hb; (try clear hb2); (try clear hk); (try clear hi)) | ((with_reducible refine gate_callee (f := 14) rfl ?_); refine goesL_ (some 31) rfl rfl Tryz.func14 (by kernel_rfl) rfl #[.string (⟨#[126]⟩ : ByteArray), .string t103] rfl bkA ?_; (with_reducible refine (Hd.scalarMonad.calls kj2 (⟨#[126]⟩ : ByteArray) t103 t105 t106 _ ?side1 A10.out).mono ?_); (case side1 => exact Hd.GL.below HGL.out bkB); rintro e w30 ⟨rfl, hb⟩; refine ⟨_, rfl, ?_⟩; replace HB := bkS hb; clear hb; (try clear hb2); (try clear hk); (try clear hi)) | ((with_reducible refine gate_callee (f := 14) rfl ?_); refine goesL_ (some 36) rfl rfl Tryz.func14 (by kernel_rfl) rfl #[.string (⟨#[42]⟩ : ByteArray), .string a0] rfl bkA ?_; (with_reducible refine (Hd.scalarMonad.calls kj2 (⟨#[42]⟩ : ByteArray) a0 t107 t108 _ ?side1 A11.out).mono ?_); (case side1 => exact Hd.GL.below HGL.out bkB); rintro e w31 ⟨rfl, hb⟩; refine ⟨_, rfl, ?_⟩; replace HB := bkS hb; clear hb; (try clear hb2); (try clear hk); (try clear hi)) | ((with_reducible refine gate_callee (f := 11) rfl ?_); refine goesL_ (some 42) rfl rfl Tryz.func11 (by kernel_rfl) rfl #[.string (⟨#[42]⟩ : ByteArray), .string t107, .string t107] rfl bkA ?_; (with_reducible refine (Hd.scalarDyad.calls kj2 (⟨#[42]⟩ : ByteArray) t107 t107 t109 t110 _ ?side1 A12.out).mono ?_); (case side1 => exact Hd.GL.below HGL.out bkB); rintro e w32 ⟨rfl, hb⟩; refine ⟨_, rfl, ?_⟩; replace HB := bkS hb; clear hb; (try clear hb2); (try clear hk); (try clear hi)) | ((with_reducible refine gate_callee (f := 11) rfl ?_); refine goesL_ (some 47) rfl rfl Tryz.func11 (by kernel_rfl) rfl #[.string (⟨#[126]⟩ : ByteArray), .string a0, .string (⟨#[48]⟩ : ByteArray)] rfl bkA ?_; (with_reducible refine (Hd.scalarDyad.calls kj2 (⟨#[126]⟩ : ByteArray) a0 (⟨#[48]⟩ : ByteArray) t111 t112 _ ?side1 A13.out).mono ?_); (case side1 => exact Hd.GL.below HGL.out bkB); rintro e w33 ⟨rfl, hb⟩; refine ⟨_, rfl, ?_⟩; replace HB := bkS hb; clear hb; (try clear hb2); (try clear hk); (try clear hi)))
                  go_ret
                  exact ⟨bkE, bkB⟩
            · rw [if_neg c16] at H
              have c16b0 : (t105.toList == ([48] : List UInt8)) = false := beq_eq_false_iff_ne.mpr c16
              have c16b1 : (t105.toList != ([48] : List UInt8)) = true := bne_iff_ne.mpr c16
              by_cases c34 : t105.toList = ([49] : List UInt8)
              · rw [if_pos c34] at H
                have c34b0 : (t105.toList == ([49] : List UInt8)) = true := beq_iff_eq.mpr c34
                have c34b1 : (t105.toList != ([49] : List UInt8)) = false := bne_eq_false_iff_eq.mpr c34
                clear c34
                by_cases c35 : t105.toList = t103.toList
                · rw [if_pos c35] at H
                  have c35b0 : (t105.toList == t103.toList) = true := beq_iff_eq.mpr c35
                  have c35b1 : (t105.toList != t103.toList) = false := bne_eq_false_iff_eq.mpr c35
                  clear c35
                  obtain rfl := Option.some.inj H
                  go_wp2_with (first | ((with_reducible refine gate_callee (f := 14) rfl ?_); refine goesL_ (some 26) rfl rfl Tryz.func14 (by kernel_rfl) rfl #[.string (⟨#[126]⟩ : ByteArray), .string a0] rfl bkA ?_; (with_reducible refine (Hd.scalarMonad.calls kj2 (⟨#[126]⟩ : ByteArray) a0 t103 t104 _ ?side1 A9.out).mono ?_); (case side1 => exact Hd.GL.below HGL.out bkB); rintro e w36 ⟨rfl, hb⟩; refine ⟨_, rfl, ?_⟩; replace HB := bkS hb; clear hb; (try clear hb2); (try clear hk); (try clear hi)) | ((with_reducible refine gate_callee (f := 14) rfl ?_); refine goesL_ (some 31) rfl rfl Tryz.func14 (by kernel_rfl) rfl #[.string (⟨#[126]⟩ : ByteArray), .string t103] rfl bkA ?_; (with_reducible refine (Hd.scalarMonad.calls kj2 (⟨#[126]⟩ : ByteArray) t103 t105 t106 _ ?side1 A10.out).mono ?_); (case side1 => exact Hd.GL.below HGL.out bkB); rintro e w37 ⟨rfl, hb⟩; refine ⟨_, rfl, ?_⟩; replace HB := bkS hb; clear hb; (try clear hb2); (try clear hk); (try clear hi)) | ((with_reducible refine gate_callee (f := 14) rfl ?_); refine goesL_ (some 36) rfl rfl Tryz.func14 (by kernel_rfl) rfl #[.string (⟨#[42]⟩ : ByteArray), .string a0] rfl bkA ?_; (with_reducible refine (Hd.scalarMonad.calls kj2 (⟨#[42]⟩ : ByteArray) a0 t107 t108 _ ?side1 A11.out).mono ?_); (case side1 => exact Hd.GL.below HGL.out bkB); rintro e w38 ⟨rfl, hb⟩; refine ⟨_, rfl, ?_⟩; replace HB := bkS hb; clear hb; (try clear hb2); (try clear hk); (try clear hi)) | ((with_reducible refine gate_callee (f := 11) rfl ?_); refine goesL_ (some 42) rfl rfl Tryz.func11 (by kernel_rfl) rfl #[.string (⟨#[42]⟩ : ByteArray), .string t107, .string t107] rfl bkA ?_; (with_reducible refine (Hd.scalarDyad.calls kj2 (⟨#[42]⟩ : ByteArray) t107 t107 t109 t110 _ ?side1 A12.out).mono ?_); (case side1 => exact Hd.GL.below HGL.out bkB); rintro e w39 ⟨rfl, hb⟩; refine ⟨_, rfl, ?_⟩; replace HB := bkS hb; clear hb; (try clear hb2); (try clear hk); (try clear hi)) | ((with_reducible refine gate_callee (f := 11) rfl ?_); refine goesL_ (some 47) rfl rfl Tryz.func11 (by kernel_rfl) rfl #[.string (⟨#[126]⟩ : ByteArray), .string a0, .string (⟨#[48]⟩ : ByteArray)] rfl bkA ?_; (with_reducible refine (Hd.scalarDyad.calls kj2 (⟨#[126]⟩ : ByteArray) a0 (⟨#[48]⟩ : ByteArray) t111 t112 _ ?side1 A13.out).mono ?_); (case side1 => exact Hd.GL.below HGL.out bkB); rintro e w40 ⟨rfl, hb⟩; refine ⟨_, rfl, ?_⟩; replace HB := bkS hb; clear hb; (try clear hb2); (try clear hk); (try clear hi)))
                  go_ret
                  exact ⟨bkE, bkB⟩
                · rw [if_neg c35] at H
                  have c35b0 : (t105.toList == t103.toList) = false := beq_eq_false_iff_ne.mpr c35
                  have c35b1 : (t105.toList != t103.toList) = true := bne_iff_ne.mpr c35
                  by_cases c41 : t109.toList = t105.toList
                  · rw [if_pos c41] at H
                    have c41b0 : (t109.toList == t105.toList) = true := beq_iff_eq.mpr c41
                    have c41b1 : (t109.toList != t105.toList) = false := bne_eq_false_iff_eq.mpr c41
                    clear c41
                    obtain rfl := Option.some.inj H
                    go_wp2_with (first | ((with_reducible refine gate_callee (f := 14) rfl ?_); refine goesL_ (some 26) rfl rfl Tryz.func14 (by kernel_rfl) rfl #[.string (⟨#[126]⟩ : ByteArray), .string a0] rfl bkA ?_; (with_reducible refine (Hd.scalarMonad.calls kj2 (⟨#[126]⟩ : ByteArray) a0 t103 t104 _ ?side1 A9.out).mono ?_); (case side1 => exact Hd.GL.below HGL.out bkB); rintro e w42 ⟨rfl, hb⟩; refine ⟨_, rfl, ?_⟩; replace HB := bkS hb; clear hb; (try clear hb2); (try clear hk); (try clear hi)) | ((with_reducible refine gate_callee (f := 14) rfl ?_); refine goesL_ (some 31) rfl rfl Tryz.func14 (by kernel_rfl) rfl #[.string (⟨#[126]⟩ : ByteArray), .string t103] rfl bkA ?_; (with_reducible refine (Hd.scalarMonad.calls kj2 (⟨#[126]⟩ : ByteArray) t103 t105 t106 _ ?side1 A10.out).mono ?_); (case side1 => exact Hd.GL.below HGL.out bkB); rintro e w43 ⟨rfl, hb⟩; refine ⟨_, rfl, ?_⟩; replace HB := bkS hb; clear hb; (try clear hb2); (try clear hk); (try clear hi)) | ((with_reducible refine gate_callee (f := 14) rfl ?_); refine goesL_ (some 36) rfl rfl Tryz.func14 (by kernel_rfl) rfl #[.string (⟨#[42]⟩ : ByteArray), .string a0] rfl bkA ?_; (with_reducible refine (Hd.scalarMonad.calls kj2 (⟨#[42]⟩ : ByteArray) a0 t107 t108 _ ?side1 A11.out).mono ?_); (case side1 => exact Hd.GL.below HGL.out bkB); rintro e w44 ⟨rfl, hb⟩; refine ⟨_, rfl, ?_⟩; replace HB := bkS hb; clear hb; (try clear hb2); (try clear hk); (try clear hi)) | ((with_reducible refine gate_callee (f := 11) rfl ?_); refine goesL_ (some 42) rfl rfl Tryz.func11 (by kernel_rfl) rfl #[.string (⟨#[42]⟩ : ByteArray), .string t107, .string t107] rfl bkA ?_; (with_reducible refine (Hd.scalarDyad.calls kj2 (⟨#[42]⟩ : ByteArray) t107 t107 t109 t110 _ ?side1 A12.out).mono ?_); (case side1 => exact Hd.GL.below HGL.out bkB); rintro e w45 ⟨rfl, hb⟩; refine ⟨_, rfl, ?_⟩; replace HB := bkS hb; clear hb; (try clear hb2); (try clear hk); (try clear hi)) | ((with_reducible refine gate_callee (f := 11) rfl ?_); refine goesL_ (some 47) rfl rfl Tryz.func11 (by kernel_rfl) rfl #[.string (⟨#[126]⟩ : ByteArray), .string a0, .string (⟨#[48]⟩ : ByteArray)] rfl bkA ?_; (with_reducible refine (Hd.scalarDyad.calls kj2 (⟨#[126]⟩ : ByteArray) a0 (⟨#[48]⟩ : ByteArray) t111 t112 _ ?side1 A13.out).mono ?_); (case side1 => exact Hd.GL.below HGL.out bkB); rintro e w46 ⟨rfl, hb⟩; refine ⟨_, rfl, ?_⟩; replace HB := bkS hb; clear hb; (try clear hb2); (try clear hk); (try clear hi)))
                    go_ret
                    exact ⟨bkE, bkB⟩
                  · rw [if_neg c41] at H
                    have c41b0 : (t109.toList == t105.toList) = false := beq_eq_false_iff_ne.mpr c41
                    have c41b1 : (t109.toList != t105.toList) = true := bne_iff_ne.mpr c41
                    obtain rfl := Option.some.inj H
                    go_wp2_with (first | ((with_reducible refine gate_callee (f := 14) rfl ?_); refine goesL_ (some 26) rfl rfl Tryz.func14 (by kernel_rfl) rfl #[.string (⟨#[126]⟩ : ByteArray), .string a0] rfl bkA ?_; (with_reducible refine (Hd.scalarMonad.calls kj2 (⟨#[126]⟩ : ByteArray) a0 t103 t104 _ ?side1 A9.out).mono ?_); (case side1 => exact Hd.GL.below HGL.out bkB); rintro e w47 ⟨rfl, hb⟩; refine ⟨_, rfl, ?_⟩; replace HB := bkS hb; clear hb; (try clear hb2); (try clear hk); (try clear hi)) | ((with_reducible refine gate_callee (f := 14) rfl ?_); refine goesL_ (some 31) rfl rfl Tryz.func14 (by kernel_rfl) rfl #[.string (⟨#[126]⟩ : ByteArray), .string t103] rfl bkA ?_; (with_reducible refine (Hd.scalarMonad.calls kj2 (⟨#[126]⟩ : ByteArray) t103 t105 t106 _ ?side1 A10.out).mono ?_); (case side1 => exact Hd.GL.below HGL.out bkB); rintro e w48 ⟨rfl, hb⟩; refine ⟨_, rfl, ?_⟩; replace HB := bkS hb; clear hb; (try clear hb2); (try clear hk); (try clear hi)) | ((with_reducible refine gate_callee (f := 14) rfl ?_); refine goesL_ (some 36) rfl rfl Tryz.func14 (by kernel_rfl) rfl #[.string (⟨#[42]⟩ : ByteArray), .string a0] rfl bkA ?_; (with_reducible refine (Hd.scalarMonad.calls kj2 (⟨#[42]⟩ : ByteArray) a0 t107 t108 _ ?side1 A11.out).mono ?_); (case side1 => exact Hd.GL.below HGL.out bkB); rintro e w49 ⟨rfl, hb⟩; refine ⟨_, rfl, ?_⟩; replace HB := bkS hb; clear hb; (try clear hb2); (try clear hk); (try clear hi)) | ((with_reducible refine gate_callee (f := 11) rfl ?_); refine goesL_ (some 42) rfl rfl Tryz.func11 (by kernel_rfl) rfl #[.string (⟨#[42]⟩ : ByteArray), .string t107, .string t107] rfl bkA ?_; (with_reducible refine (Hd.scalarDyad.calls kj2 (⟨#[42]⟩ : ByteArray) t107 t107 t109 t110 _ ?side1 A12.out).mono ?_); (case side1 => exact Hd.GL.below HGL.out bkB); rintro e w50 ⟨rfl, hb⟩; refine ⟨_, rfl, ?_⟩; replace HB := bkS hb; clear hb; (try clear hb2); (try clear hk); (try clear hi)) | ((with_reducible refine gate_callee (f := 11) rfl ?_); refine goesL_ (some 47) rfl rfl Tryz.func11 (by kernel_rfl) rfl #[.string (⟨#[126]⟩ : ByteArray), .string a0, .string (⟨#[48]⟩ : ByteArray)] rfl bkA ?_; (with_reducible refine (Hd.scalarDyad.calls kj2 (⟨#[126]⟩ : ByteArray) a0 (⟨#[48]⟩ : ByteArray) t111 t112 _ ?side1 A13.out).mono ?_); (case side1 => exact Hd.GL.below HGL.out bkB); rintro e w51 ⟨rfl, hb⟩; refine ⟨_, rfl, ?_⟩; replace HB := bkS hb; clear hb; (try clear hb2); (try clear hk); (try clear hi)))
                    go_ret
                    exact ⟨bkE, bkB⟩
              · rw [if_neg c34] at H
                have c34b0 : (t105.toList == ([49] : List UInt8)) = false := beq_eq_false_iff_ne.mpr c34
                have c34b1 : (t105.toList != ([49] : List UInt8)) = true := bne_iff_ne.mpr c34
                obtain rfl := Option.some.inj H
                go_wp2_with (first | ((with_reducible refine gate_callee (f := 14) rfl ?_); refine goesL_ (some 26) rfl rfl Tryz.func14 (by kernel_rfl) rfl #[.string (⟨#[126]⟩ : ByteArray), .string a0] rfl bkA ?_; (with_reducible refine (Hd.scalarMonad.calls kj2 (⟨#[126]⟩ : ByteArray) a0 t103 t104 _ ?side1 A9.out).mono ?_); (case side1 => exact Hd.GL.below HGL.out bkB); rintro e w52 ⟨rfl, hb⟩; refine ⟨_, rfl, ?_⟩; replace HB := bkS hb; clear hb; (try clear hb2); (try clear hk); (try clear hi)) | ((with_reducible refine gate_callee (f := 14) rfl ?_); refine goesL_ (some 31) rfl rfl Tryz.func14 (by kernel_rfl) rfl #[.string (⟨#[126]⟩ : ByteArray), .string t103] rfl bkA ?_; (with_reducible refine (Hd.scalarMonad.calls kj2 (⟨#[126]⟩ : ByteArray) t103 t105 t106 _ ?side1 A10.out).mono ?_); (case side1 => exact Hd.GL.below HGL.out bkB); rintro e w53 ⟨rfl, hb⟩; refine ⟨_, rfl, ?_⟩; replace HB := bkS hb; clear hb; (try clear hb2); (try clear hk); (try clear hi)) | ((with_reducible refine gate_callee (f := 14) rfl ?_); refine goesL_ (some 36) rfl rfl Tryz.func14 (by kernel_rfl) rfl #[.string (⟨#[42]⟩ : ByteArray), .string a0] rfl bkA ?_; (with_reducible refine (Hd.scalarMonad.calls kj2 (⟨#[42]⟩ : ByteArray) a0 t107 t108 _ ?side1 A11.out).mono ?_); (case side1 => exact Hd.GL.below HGL.out bkB); rintro e w54 ⟨rfl, hb⟩; refine ⟨_, rfl, ?_⟩; replace HB := bkS hb; clear hb; (try clear hb2); (try clear hk); (try clear hi)) | ((with_reducible refine gate_callee (f := 11) rfl ?_); refine goesL_ (some 42) rfl rfl Tryz.func11 (by kernel_rfl) rfl #[.string (⟨#[42]⟩ : ByteArray), .string t107, .string t107] rfl bkA ?_; (with_reducible refine (Hd.scalarDyad.calls kj2 (⟨#[42]⟩ : ByteArray) t107 t107 t109 t110 _ ?side1 A12.out).mono ?_); (case side1 => exact Hd.GL.below HGL.out bkB); rintro e w55 ⟨rfl, hb⟩; refine ⟨_, rfl, ?_⟩; replace HB := bkS hb; clear hb; (try clear hb2); (try clear hk); (try clear hi)) | ((with_reducible refine gate_callee (f := 11) rfl ?_); refine goesL_ (some 47) rfl rfl Tryz.func11 (by kernel_rfl) rfl #[.string (⟨#[126]⟩ : ByteArray), .string a0, .string (⟨#[48]⟩ : ByteArray)] rfl bkA ?_; (with_reducible refine (Hd.scalarDyad.calls kj2 (⟨#[126]⟩ : ByteArray) a0 (⟨#[48]⟩ : ByteArray) t111 t112 _ ?side1 A13.out).mono ?_); (case side1 => exact Hd.GL.below HGL.out bkB); rintro e w56 ⟨rfl, hb⟩; refine ⟨_, rfl, ?_⟩; replace HB := bkS hb; clear hb; (try clear hb2); (try clear hk); (try clear hi)))
                go_ret
                exact ⟨bkE, bkB⟩
          · rw [if_neg c15] at H
            have c15b0 : (t103.toList == ([48] : List UInt8)) = false := beq_eq_false_iff_ne.mpr c15
            have c15b1 : (t103.toList != ([48] : List UInt8)) = true := bne_iff_ne.mpr c15
            by_cases c57 : t103.toList = ([49] : List UInt8)
            · rw [if_pos c57] at H
              have c57b0 : (t103.toList == ([49] : List UInt8)) = true := beq_iff_eq.mpr c57
              have c57b1 : (t103.toList != ([49] : List UInt8)) = false := bne_eq_false_iff_eq.mpr c57
              clear c57
              by_cases c58 : t105.toList = ([48] : List UInt8)
              · rw [if_pos c58] at H
                have c58b0 : (t105.toList == ([48] : List UInt8)) = true := beq_iff_eq.mpr c58
                have c58b1 : (t105.toList != ([48] : List UInt8)) = false := bne_eq_false_iff_eq.mpr c58
                clear c58
                by_cases c59 : t105.toList = t103.toList
                · rw [if_pos c59] at H
                  have c59b0 : (t105.toList == t103.toList) = true := beq_iff_eq.mpr c59
                  have c59b1 : (t105.toList != t103.toList) = false := bne_eq_false_iff_eq.mpr c59
                  clear c59
                  obtain rfl := Option.some.inj H
                  go_wp2_with (first | ((with_reducible refine gate_callee (f := 14) rfl ?_); refine goesL_ (some 26) rfl rfl Tryz.func14 (by kernel_rfl) rfl #[.string (⟨#[126]⟩ : ByteArray), .string a0] rfl bkA ?_; (with_reducible refine (Hd.scalarMonad.calls kj2 (⟨#[126]⟩ : ByteArray) a0 t103 t104 _ ?side1 A9.out).mono ?_); (case side1 => exact Hd.GL.below HGL.out bkB); rintro e w60 ⟨rfl, hb⟩; refine ⟨_, rfl, ?_⟩; replace HB := bkS hb; clear hb; (try clear hb2); (try clear hk); (try clear hi)) | ((with_reducible refine gate_callee (f := 14) rfl ?_); refine goesL_ (some 31) rfl rfl Tryz.func14 (by kernel_rfl) rfl #[.string (⟨#[126]⟩ : ByteArray), .string t103] rfl bkA ?_; (with_reducible refine (Hd.scalarMonad.calls kj2 (⟨#[126]⟩ : ByteArray) t103 t105 t106 _ ?side1 A10.out).mono ?_); (case side1 => exact Hd.GL.below HGL.out bkB); rintro e w61 ⟨rfl, hb⟩; refine ⟨_, rfl, ?_⟩; replace HB := bkS hb; clear hb; (try clear hb2); (try clear hk); (try clear hi)) | ((with_reducible refine gate_callee (f := 14) rfl ?_); refine goesL_ (some 36) rfl rfl Tryz.func14 (by kernel_rfl) rfl #[.string (⟨#[42]⟩ : ByteArray), .string a0] rfl bkA ?_; (with_reducible refine (Hd.scalarMonad.calls kj2 (⟨#[42]⟩ : ByteArray) a0 t107 t108 _ ?side1 A11.out).mono ?_); (case side1 => exact Hd.GL.below HGL.out bkB); rintro e w62 ⟨rfl, hb⟩; refine ⟨_, rfl, ?_⟩; replace HB := bkS hb; clear hb; (try clear hb2); (try clear hk); (try clear hi)) | ((with_reducible refine gate_callee (f := 11) rfl ?_); refine goesL_ (some 42) rfl rfl Tryz.func11 (by kernel_rfl) rfl #[.string (⟨#[42]⟩ : ByteArray), .string t107, .string t107] rfl bkA ?_; (with_reducible refine (Hd.scalarDyad.calls kj2 (⟨#[42]⟩ : ByteArray) t107 t107 t109 t110 _ ?side1 A12.out).mono ?_); (case side1 => exact Hd.GL.below HGL.out bkB); rintro e w63 ⟨rfl, hb⟩; refine ⟨_, rfl, ?_⟩; replace HB := bkS hb; clear hb; (try clear hb2); (try clear hk); (try clear hi)) | ((with_reducible refine gate_callee (f := 11) rfl ?_); refine goesL_ (some 47) rfl rfl Tryz.func11 (by kernel_rfl) rfl #[.string (⟨#[126]⟩ : ByteArray), .string a0, .string (⟨#[48]⟩ : ByteArray)] rfl bkA ?_; (with_reducible refine (Hd.scalarDyad.calls kj2 (⟨#[126]⟩ : ByteArray) a0 (⟨#[48]⟩ : ByteArray) t111 t112 _ ?side1 A13.out).mono ?_); (case side1 => exact Hd.GL.below HGL.out bkB); rintro e w64 ⟨rfl, hb⟩; refine ⟨_, rfl, ?_⟩; replace HB := bkS hb; clear hb; (try clear hb2); (try clear hk); (try clear hi)))
                  go_ret
                  exact ⟨bkE, bkB⟩
                · rw [if_neg c59] at H
                  have c59b0 : (t105.toList == t103.toList) = false := beq_eq_false_iff_ne.mpr c59
                  have c59b1 : (t105.toList != t103.toList) = true := bne_iff_ne.mpr c59
                  by_cases c65 : t109.toList = t105.toList
                  · rw [if_pos c65] at H
                    have c65b0 : (t109.toList == t105.toList) = true := beq_iff_eq.mpr c65
                    have c65b1 : (t109.toList != t105.toList) = false := bne_eq_false_iff_eq.mpr c65
                    clear c65
                    obtain rfl := Option.some.inj H
                    go_wp2_with (first | ((with_reducible refine gate_callee (f := 14) rfl ?_); refine goesL_ (some 26) rfl rfl Tryz.func14 (by kernel_rfl) rfl #[.string (⟨#[126]⟩ : ByteArray), .string a0] rfl bkA ?_; (with_reducible refine (Hd.scalarMonad.calls kj2 (⟨#[126]⟩ : ByteArray) a0 t103 t104 _ ?side1 A9.out).mono ?_); (case side1 => exact Hd.GL.below HGL.out bkB); rintro e w66 ⟨rfl, hb⟩; refine ⟨_, rfl, ?_⟩; replace HB := bkS hb; clear hb; (try clear hb2); (try clear hk); (try clear hi)) | ((with_reducible refine gate_callee (f := 14) rfl ?_); refine goesL_ (some 31) rfl rfl Tryz.func14 (by kernel_rfl) rfl #[.string (⟨#[126]⟩ : ByteArray), .string t103] rfl bkA ?_; (with_reducible refine (Hd.scalarMonad.calls kj2 (⟨#[126]⟩ : ByteArray) t103 t105 t106 _ ?side1 A10.out).mono ?_); (case side1 => exact Hd.GL.below HGL.out bkB); rintro e w67 ⟨rfl, hb⟩; refine ⟨_, rfl, ?_⟩; replace HB := bkS hb; clear hb; (try clear hb2); (try clear hk); (try clear hi)) | ((with_reducible refine gate_callee (f := 14) rfl ?_); refine goesL_ (some 36) rfl rfl Tryz.func14 (by kernel_rfl) rfl #[.string (⟨#[42]⟩ : ByteArray), .string a0] rfl bkA ?_; (with_reducible refine (Hd.scalarMonad.calls kj2 (⟨#[42]⟩ : ByteArray) a0 t107 t108 _ ?side1 A11.out).mono ?_); (case side1 => exact Hd.GL.below HGL.out bkB); rintro e w68 ⟨rfl, hb⟩; refine ⟨_, rfl, ?_⟩; replace HB := bkS hb; clear hb; (try clear hb2); (try clear hk); (try clear hi)) | ((with_reducible refine gate_callee (f := 11) rfl ?_); refine goesL_ (some 42) rfl rfl Tryz.func11 (by kernel_rfl) rfl #[.string (⟨#[42]⟩ : ByteArray), .string t107, .string t107] rfl bkA ?_; (with_reducible refine (Hd.scalarDyad.calls kj2 (⟨#[42]⟩ : ByteArray) t107 t107 t109 t110 _ ?side1 A12.out).mono ?_); (case side1 => exact Hd.GL.below HGL.out bkB); rintro e w69 ⟨rfl, hb⟩; refine ⟨_, rfl, ?_⟩; replace HB := bkS hb; clear hb; (try clear hb2); (try clear hk); (try clear hi)) | ((with_reducible refine gate_callee (f := 11) rfl ?_); refine goesL_ (some 47) rfl rfl Tryz.func11 (by kernel_rfl) rfl #[.string (⟨#[126]⟩ : ByteArray), .string a0, .string (⟨#[48]⟩ : ByteArray)] rfl bkA ?_; (with_reducible refine (Hd.scalarDyad.calls kj2 (⟨#[126]⟩ : ByteArray) a0 (⟨#[48]⟩ : ByteArray) t111 t112 _ ?side1 A13.out).mono ?_); (case side1 => exact Hd.GL.below HGL.out bkB); rintro e w70 ⟨rfl, hb⟩; refine ⟨_, rfl, ?_⟩; replace HB := bkS hb; clear hb; (try clear hb2); (try clear hk); (try clear hi)))
                    go_ret
                    exact ⟨bkE, bkB⟩
                  · rw [if_neg c65] at H
                    have c65b0 : (t109.toList == t105.toList) = false := beq_eq_false_iff_ne.mpr c65
                    have c65b1 : (t109.toList != t105.toList) = true := bne_iff_ne.mpr c65
                    obtain rfl := Option.some.inj H
                    go_wp2_with (first | ((with_reducible refine gate_callee (f := 14) rfl ?_); refine goesL_ (some 26) rfl rfl Tryz.func14 (by kernel_rfl) rfl #[.string (⟨#[126]⟩ : ByteArray), .string a0] rfl bkA ?_; (with_reducible refine (Hd.scalarMonad.calls kj2 (⟨#[126]⟩ : ByteArray) a0 t103 t104 _ ?side1 A9.out).mono ?_); (case side1 => exact Hd.GL.below HGL.out bkB); rintro e w71 ⟨rfl, hb⟩; refine ⟨_, rfl, ?_⟩; replace HB := bkS hb; clear hb; (try clear hb2); (try clear hk); (try clear hi)) | ((with_reducible refine gate_callee (f := 14) rfl ?_); refine goesL_ (some 31) rfl rfl Tryz.func14 (by kernel_rfl) rfl #[.string (⟨#[126]⟩ : ByteArray), .string t103] rfl bkA ?_; (with_reducible refine (Hd.scalarMonad.calls kj2 (⟨#[126]⟩ : ByteArray) t103 t105 t106 _ ?side1 A10.out).mono ?_); (case side1 => exact Hd.GL.below HGL.out bkB); rintro e w72 ⟨rfl, hb⟩; refine ⟨_, rfl, ?_⟩; replace HB := bkS hb; clear hb; (try clear hb2); (try clear hk); (try clear hi)) | ((with_reducible refine gate_callee (f := 14) rfl ?_); refine goesL_ (some 36) rfl rfl Tryz.func14 (by kernel_rfl) rfl #[.string (⟨#[42]⟩ : ByteArray), .string a0] rfl bkA ?_; (with_reducible refine (Hd.scalarMonad.calls kj2 (⟨#[42]⟩ : ByteArray) a0 t107 t108 _ ?side1 A11.out).mono ?_); (case side1 => exact Hd.GL.below HGL.out bkB); rintro e w73 ⟨rfl, hb⟩; refine ⟨_, rfl, ?_⟩; replace HB := bkS hb; clear hb; (try clear hb2); (try clear hk); (try clear hi)) | ((with_reducible refine gate_callee (f := 11) rfl ?_); refine goesL_ (some 42) rfl rfl Tryz.func11 (by kernel_rfl) rfl #[.string (⟨#[42]⟩ : ByteArray), .string t107, .string t107] rfl bkA ?_; (with_reducible refine (Hd.scalarDyad.calls kj2 (⟨#[42]⟩ : ByteArray) t107 t107 t109 t110 _ ?side1 A12.out).mono ?_); (case side1 => exact Hd.GL.below HGL.out bkB); rintro e w74 ⟨rfl, hb⟩; refine ⟨_, rfl, ?_⟩; replace HB := bkS hb; clear hb; (try clear hb2); (try clear hk); (try clear hi)) | ((with_reducible refine gate_callee (f := 11) rfl ?_); refine goesL_ (some 47) rfl rfl Tryz.func11 (by kernel_rfl) rfl #[.string (⟨#[126]⟩ : ByteArray), .string a0, .string (⟨#[48]⟩ : ByteArray)] rfl bkA ?_; (with_reducible refine (Hd.scalarDyad.calls kj2 (⟨#[126]⟩ : ByteArray) a0 (⟨#[48]⟩ : ByteArray) t111 t112 _ ?side1 A13.out).mono ?_); (case side1 => exact Hd.GL.below HGL.out bkB); rintro e w75 ⟨rfl, hb⟩; refine ⟨_, rfl, ?_⟩; replace HB := bkS hb; clear hb; (try clear hb2); (try clear hk); (try clear hi)))
                    go_ret
                    exact ⟨bkE, bkB⟩
              · rw [if_neg c58] at H
                have c58b0 : (t105.toList == ([48] : List UInt8)) = false := beq_eq_false_iff_ne.mpr c58
                have c58b1 : (t105.toList != ([48] : List UInt8)) = true := bne_iff_ne.mpr c58
                by_cases c76 : t105.toList = ([49] : List UInt8)
                · rw [if_pos c76] at H
                  have c76b0 : (t105.toList == ([49] : List UInt8)) = true := beq_iff_eq.mpr c76
                  have c76b1 : (t105.toList != ([49] : List UInt8)) = false := bne_eq_false_iff_eq.mpr c76
                  clear c76
                  by_cases c77 : t105.toList = t103.toList
                  · rw [if_pos c77] at H
                    have c77b0 : (t105.toList == t103.toList) = true := beq_iff_eq.mpr c77
                    have c77b1 : (t105.toList != t103.toList) = false := bne_eq_false_iff_eq.mpr c77
                    clear c77
                    obtain rfl := Option.some.inj H
                    go_wp2_with (first | ((with_reducible refine gate_callee (f := 14) rfl ?_); refine goesL_ (some 26) rfl rfl Tryz.func14 (by kernel_rfl) rfl #[.string (⟨#[126]⟩ : ByteArray), .string a0] rfl bkA ?_; (with_reducible refine (Hd.scalarMonad.calls kj2 (⟨#[126]⟩ : ByteArray) a0 t103 t104 _ ?side1 A9.out).mono ?_); (case side1 => exact Hd.GL.below HGL.out bkB); rintro e w78 ⟨rfl, hb⟩; refine ⟨_, rfl, ?_⟩; replace HB := bkS hb; clear hb; (try clear hb2); (try clear hk); (try clear hi)) | ((with_reducible refine gate_callee (f := 14) rfl ?_); refine goesL_ (some 31) rfl rfl Tryz.func14 (by kernel_rfl) rfl #[.string (⟨#[126]⟩ : ByteArray), .string t103] rfl bkA ?_; (with_reducible refine (Hd.scalarMonad.calls kj2 (⟨#[126]⟩ : ByteArray) t103 t105 t106 _ ?side1 A10.out).mono ?_); (case side1 => exact Hd.GL.below HGL.out bkB); rintro e w79 ⟨rfl, hb⟩; refine ⟨_, rfl, ?_⟩; replace HB := bkS hb; clear hb; (try clear hb2); (try clear hk); (try clear hi)) | ((with_reducible refine gate_callee (f := 14) rfl ?_); refine goesL_ (some 36) rfl rfl Tryz.func14 (by kernel_rfl) rfl #[.string (⟨#[42]⟩ : ByteArray), .string a0] rfl bkA ?_; (with_reducible refine (Hd.scalarMonad.calls kj2 (⟨#[42]⟩ : ByteArray) a0 t107 t108 _ ?side1 A11.out).mono ?_); (case side1 => exact Hd.GL.below HGL.out bkB); rintro e w80 ⟨rfl, hb⟩; refine ⟨_, rfl, ?_⟩; replace HB := bkS hb; clear hb; (try clear hb2); (try clear hk); (try clear hi)) | ((with_reducible refine gate_callee (f := 11) rfl ?_); refine goesL_ (some 42) rfl rfl Tryz.func11 (by kernel_rfl) rfl #[.string (⟨#[42]⟩ : ByteArray), .string t107, .string t107] rfl bkA ?_; (with_reducible refine (Hd.scalarDyad.calls kj2 (⟨#[42]⟩ : ByteArray) t107 t107 t109 t110 _ ?side1 A12.out).mono ?_); (case side1 => exact Hd.GL.below HGL.out bkB); rintro e w81 ⟨rfl, hb⟩; refine ⟨_, rfl, ?_⟩; replace HB := bkS hb; clear hb; (try clear hb2); (try clear hk); (try clear hi)) | ((with_reducible refine gate_callee (f := 11) rfl ?_); refine goesL_ (some 47) rfl rfl Tryz.func11 (by kernel_rfl) rfl #[.string (⟨#[126]⟩ : ByteArray), .string a0, .string (⟨#[48]⟩ : ByteArray)] rfl bkA ?_; (with_reducible refine (Hd.scalarDyad.calls kj2 (⟨#[126]⟩ : ByteArray) a0 (⟨#[48]⟩ : ByteArray) t111 t112 _ ?side1 A13.out).mono ?_); (case side1 => exact Hd.GL.below HGL.out bkB); rintro e w82 ⟨rfl, hb⟩; refine ⟨_, rfl, ?_⟩; replace HB := bkS hb; clear hb; (try clear hb2); (try clear hk); (try clear hi)))
                    go_ret
                    exact ⟨bkE, bkB⟩
                  · rw [if_neg c77] at H
                    have c77b0 : (t105.toList == t103.toList) = false := beq_eq_false_iff_ne.mpr c77
                    have c77b1 : (t105.toList != t103.toList) = true := bne_iff_ne.mpr c77
                    by_cases c83 : t109.toList = t105.toList
                    · rw [if_pos c83] at H
                      have c83b0 : (t109.toList == t105.toList) = true := beq_iff_eq.mpr c83
                      have c83b1 : (t109.toList != t105.toList) = false := bne_eq_false_iff_eq.mpr c83
                      clear c83
                      obtain rfl := Option.some.inj H
                      go_wp2_with (first | ((with_reducible refine gate_callee (f := 14) rfl ?_); refine goesL_ (some 26) rfl rfl Tryz.func14 (by kernel_rfl) rfl #[.string (⟨#[126]⟩ : ByteArray), .string a0] rfl bkA ?_; (with_reducible refine (Hd.scalarMonad.calls kj2 (⟨#[126]⟩ : ByteArray) a0 t103 t104 _ ?side1 A9.out).mono ?_); (case side1 => exact Hd.GL.below HGL.out bkB); rintro e w84 ⟨rfl, hb⟩; refine ⟨_, rfl, ?_⟩; replace HB := bkS hb; clear hb; (try clear hb2); (try clear hk); (try clear hi)) | ((with_reducible refine gate_callee (f := 14) rfl ?_); refine goesL_ (some 31) rfl rfl Tryz.func14 (by kernel_rfl) rfl #[.string (⟨#[126]⟩ : ByteArray), .string t103] rfl bkA ?_; (with_reducible refine (Hd.scalarMonad.calls kj2 (⟨#[126]⟩ : ByteArray) t103 t105 t106 _ ?side1 A10.out).mono ?_); (case side1 => exact Hd.GL.below HGL.out bkB); rintro e w85 ⟨rfl, hb⟩; refine ⟨_, rfl, ?_⟩; replace HB := bkS hb; clear hb; (try clear hb2); (try clear hk); (try clear hi)) | ((with_reducible refine gate_callee (f := 14) rfl ?_); refine goesL_ (some 36) rfl rfl Tryz.func14 (by kernel_rfl) rfl #[.string (⟨#[42]⟩ : ByteArray), .string a0] rfl bkA ?_; (with_reducible refine (Hd.scalarMonad.calls kj2 (⟨#[42]⟩ : ByteArray) a0 t107 t108 _ ?side1 A11.out).mono ?_); (case side1 => exact Hd.GL.below HGL.out bkB); rintro e w86 ⟨rfl, hb⟩; refine ⟨_, rfl, ?_⟩; replace HB := bkS hb; clear hb; (try clear hb2); (try clear hk); (try clear hi)) | ((with_reducible refine gate_callee (f := 11) rfl ?_); refine goesL_ (some 42) rfl rfl Tryz.func11 (by kernel_rfl) rfl #[.string (⟨#[42]⟩ : ByteArray), .string t107, .string t107] rfl bkA ?_; (with_reducible refine (Hd.scalarDyad.calls kj2 (⟨#[42]⟩ : ByteArray) t107 t107 t109 t110 _ ?side1 A12.out).mono ?_); (case side1 => exact Hd.GL.below HGL.out bkB); rintro e w87 ⟨rfl, hb⟩; refine ⟨_, rfl, ?_⟩; replace HB := bkS hb; clear hb; (try clear hb2); (try clear hk); (try clear hi)) | ((with_reducible refine gate_callee (f := 11) rfl ?_); refine goesL_ (some 47) rfl rfl Tryz.func11 (by kernel_rfl) rfl #[.string (⟨#[126]⟩ : ByteArray), .string a0, .string (⟨#[48]⟩ : ByteArray)] rfl bkA ?_; (with_reducible refine (Hd.scalarDyad.calls kj2 (⟨#[126]⟩ : ByteArray) a0 (⟨#[48]⟩ : ByteArray) t111 t112 _ ?side1 A13.out).mono ?_); (case side1 => exact Hd.GL.below HGL.out bkB); rintro e w88 ⟨rfl, hb⟩; refine ⟨_, rfl, ?_⟩; replace HB := bkS hb; clear hb; (try clear hb2); (try clear hk); (try clear hi)))
                      go_ret
                      exact ⟨bkE, bkB⟩
                    · rw [if_neg c83] at H
                      have c83b0 : (t109.toList == t105.toList) = false := beq_eq_false_iff_ne.mpr c83
                      have c83b1 : (t109.toList != t105.toList) = true := bne_iff_ne.mpr c83
                      obtain rfl := Option.some.inj H
                      go_wp2_with (first | ((with_reducible refine gate_callee (f := 14) rfl ?_); refine goesL_ (some 26) rfl rfl Tryz.func14 (by kernel_rfl) rfl #[.string (⟨#[126]⟩ : ByteArray), .string a0] rfl bkA ?_; (with_reducible refine (Hd.scalarMonad.calls kj2 (⟨#[126]⟩ : ByteArray) a0 t103 t104 _ ?side1 A9.out).mono ?_); (case side1 => exact Hd.GL.below HGL.out bkB); rintro e w89 ⟨rfl, hb⟩; refine ⟨_, rfl, ?_⟩; replace HB := bkS hb; clear hb; (try clear hb2); (try clear hk); (try clear hi)) | ((with_reducible refine gate_callee (f := 14) rfl ?_); refine goesL_ (some 31) rfl rfl Tryz.func14 (by kernel_rfl) rfl #[.string (⟨#[126]⟩ : ByteArray), .string t103] rfl bkA ?_; (with_reducible refine (Hd.scalarMonad.calls kj2 (⟨#[126]⟩ : ByteArray) t103 t105 t106 _ ?side1 A10.out).mono ?_); (case side1 => exact Hd.GL.below HGL.out bkB); rintro e w90 ⟨rfl, hb⟩; refine ⟨_, rfl, ?_⟩; replace HB := bkS hb; clear hb; (try clear hb2); (try clear hk); (try clear hi)) | ((with_reducible refine gate_callee (f := 14) rfl ?_); refine goesL_ (some 36) rfl rfl Tryz.func14 (by kernel_rfl) rfl #[.string (⟨#[42]⟩ : ByteArray), .string a0] rfl bkA ?_; (with_reducible refine (Hd.scalarMonad.calls kj2 (⟨#[42]⟩ : ByteArray) a0 t107 t108 _ ?side1 A11.out).mono ?_); (case side1 => exact Hd.GL.below HGL.out bkB); rintro e w91 ⟨rfl, hb⟩; refine ⟨_, rfl, ?_⟩; replace HB := bkS hb; clear hb; (try clear hb2); (try clear hk); (try clear hi)) | ((with_reducible refine gate_callee (f := 11) rfl ?_); refine goesL_ (some 42) rfl rfl Tryz.func11 (by kernel_rfl) rfl #[.string (⟨#[42]⟩ : ByteArray), .string t107, .string t107] rfl bkA ?_; (with_reducible refine (Hd.scalarDyad.calls kj2 (⟨#[42]⟩ : ByteArray) t107 t107 t109 t110 _ ?side1 A12.out).mono ?_); (case side1 => exact Hd.GL.below HGL.out bkB); rintro e w92 ⟨rfl, hb⟩; refine ⟨_, rfl, ?_⟩; replace HB := bkS hb; clear hb; (try clear hb2); (try clear hk); (try clear hi)) | ((with_reducible refine gate_callee (f := 11) rfl ?_); refine goesL_ (some 47) rfl rfl Tryz.func11 (by kernel_rfl) rfl #[.string (⟨#[126]⟩ : ByteArray), .string a0, .string (⟨#[48]⟩ : ByteArray)] rfl bkA ?_; (with_reducible refine (Hd.scalarDyad.calls kj2 (⟨#[126]⟩ : ByteArray) a0 (⟨#[48]⟩ : ByteArray) t111 t112 _ ?side1 A13.out).mono ?_); (case side1 => exact Hd.GL.below HGL.out bkB); rintro e w93 ⟨rfl, hb⟩; refine ⟨_, rfl, ?_⟩; replace HB := bkS hb; clear hb; (try clear hb2); (try clear hk); (try clear hi)))
                      go_ret
                      exact ⟨bkE, bkB⟩
                · rw [if_neg c76] at H
                  have c76b0 : (t105.toList == ([49] : List UInt8)) = false := beq_eq_false_iff_ne.mpr c76
                  have c76b1 : (t105.toList != ([49] : List UInt8)) = true := bne_iff_ne.mpr c76
                  obtain rfl := Option.some.inj H
                  go_wp2_with (first | ((with_reducible refine gate_callee (f := 14) rfl ?_); refine goesL_ (some 26) rfl rfl Tryz.func14 (by kernel_rfl) rfl #[.string (⟨#[126]⟩ : ByteArray), .string a0] rfl bkA ?_; (with_reducible refine (Hd.scalarMonad.calls kj2 (⟨#[126]⟩ : ByteArray) a0 t103 t104 _ ?side1 A9.out).mono ?_); (case side1 => exact Hd.GL.below HGL.out bkB); rintro e w94 ⟨rfl, hb⟩; refine ⟨_, rfl, ?_⟩; replace HB := bkS hb; clear hb; (try clear hb2); (try clear hk); (try clear hi)) | ((with_reducible refine gate_callee (f := 14) rfl ?_); refine goesL_ (some 31) rfl rfl Tryz.func14 (by kernel_rfl) rfl #[.string (⟨#[126]⟩ : ByteArray), .string t103] rfl bkA ?_; (with_reducible refine (Hd.scalarMonad.calls kj2 (⟨#[126]⟩ : ByteArray) t103 t105 t106 _ ?side1 A10.out).mono ?_); (case side1 => exact Hd.GL.below HGL.out bkB); rintro e w95 ⟨rfl, hb⟩; refine ⟨_, rfl, ?_⟩; replace HB := bkS hb; clear hb; (try clear hb2); (try clear hk); (try clear hi)) | ((with_reducible refine gate_callee (f := 14) rfl ?_); refine goesL_ (some 36) rfl rfl Tryz.func14 (by kernel_rfl) rfl #[.string (⟨#[42]⟩ : ByteArray), .string a0] rfl bkA ?_; (with_reducible refine (Hd.scalarMonad.calls kj2 (⟨#[42]⟩ : ByteArray) a0 t107 t108 _ ?side1 A11.out).mono ?_); (case side1 => exact Hd.GL.below HGL.out bkB); rintro e w96 ⟨rfl, hb⟩; refine ⟨_, rfl, ?_⟩; replace HB := bkS hb; clear hb; (try clear hb2); (try clear hk); (try clear hi)) | ((with_reducible refine gate_callee (f := 11) rfl ?_); refine goesL_ (some 42) rfl rfl Tryz.func11 (by kernel_rfl) rfl #[.string (⟨#[42]⟩ : ByteArray), .string t107, .string t107] rfl bkA ?_; (with_reducible refine (Hd.scalarDyad.calls kj2 (⟨#[42]⟩ : ByteArray) t107 t107 t109 t110 _ ?side1 A12.out).mono ?_); (case side1 => exact Hd.GL.below HGL.out bkB); rintro e w97 ⟨rfl, hb⟩; refine ⟨_, rfl, ?_⟩; replace HB := bkS hb; clear hb; (try clear hb2); (try clear hk); (try clear hi)) | ((with_reducible refine gate_callee (f := 11) rfl ?_); refine goesL_ (some 47) rfl rfl Tryz.func11 (by kernel_rfl) rfl #[.string (⟨#[126]⟩ : ByteArray), .string a0, .string (⟨#[48]⟩ : ByteArray)] rfl bkA ?_; (with_reducible refine (Hd.scalarDyad.calls kj2 (⟨#[126]⟩ : ByteArray) a0 (⟨#[48]⟩ : ByteArray) t111 t112 _ ?side1 A13.out).mono ?_); (case side1 => exact Hd.GL.below HGL.out bkB); rintro e w98 ⟨rfl, hb⟩; refine ⟨_, rfl, ?_⟩; replace HB := bkS hb; clear hb; (try clear hb2); (try clear hk); (try clear hi)))
                  go_ret
                  exact ⟨bkE, bkB⟩
            · rw [if_neg c57] at H
              have c57b0 : (t103.toList == ([49] : List UInt8)) = false := beq_eq_false_iff_ne.mpr c57
              have c57b1 : (t103.toList != ([49] : List UInt8)) = true := bne_iff_ne.mpr c57
              obtain rfl := Option.some.inj H
              go_wp2_with (first | ((with_reducible refine gate_callee (f := 14) rfl ?_); refine goesL_ (some 26) rfl rfl Tryz.func14 (by kernel_rfl) rfl #[.string (⟨#[126]⟩ : ByteArray), .string a0] rfl bkA ?_; (with_reducible refine (Hd.scalarMonad.calls kj2 (⟨#[126]⟩ : ByteArray) a0 t103 t104 _ ?side1 A9.out).mono ?_); (case side1 => exact Hd.GL.below HGL.out bkB); rintro e w99 ⟨rfl, hb⟩; refine ⟨_, rfl, ?_⟩; replace HB := bkS hb; clear hb; (try clear hb2); (try clear hk); (try clear hi)) | ((with_reducible refine gate_callee (f := 14) rfl ?_); refine goesL_ (some 31) rfl rfl Tryz.func14 (by kernel_rfl) rfl #[.string (⟨#[126]⟩ : ByteArray), .string t103] rfl bkA ?_; (with_reducible refine (Hd.scalarMonad.calls kj2 (⟨#[126]⟩ : ByteArray) t103 t105 t106 _ ?side1 A10.out).mono ?_); (case side1 => exact Hd.GL.below HGL.out bkB); rintro e w100 ⟨rfl, hb⟩; refine ⟨_, rfl, ?_⟩; replace HB := bkS hb; clear hb; (try clear hb2); (try clear hk); (try clear hi)) | ((with_reducible refine gate_callee (f := 14) rfl ?_); refine goesL_ (some 36) rfl rfl Tryz.func14 (by kernel_rfl) rfl #[.string (⟨#[42]⟩ : ByteArray), .string a0] rfl bkA ?_; (with_reducible refine (Hd.scalarMonad.calls kj2 (⟨#[42]⟩ : ByteArray) a0 t107 t108 _ ?side1 A11.out).mono ?_); (case side1 => exact Hd.GL.below HGL.out bkB); rintro e w101 ⟨rfl, hb⟩; refine ⟨_, rfl, ?_⟩; replace HB := bkS hb; clear hb; (try clear hb2); (try clear hk); (try clear hi)) | ((with_reducible refine gate_callee (f := 11) rfl ?_); refine goesL_ (some 42) rfl rfl Tryz.func11 (by kernel_rfl) rfl #[.string (⟨#[42]⟩ : ByteArray), .string t107, .string t107] rfl bkA ?_; (with_reducible refine (Hd.scalarDyad.calls kj2 (⟨#[42]⟩ : ByteArray) t107 t107 t109 t110 _ ?side1 A12.out).mono ?_); (case side1 => exact Hd.GL.below HGL.out bkB); rintro e w102 ⟨rfl, hb⟩; refine ⟨_, rfl, ?_⟩; replace HB := bkS hb; clear hb; (try clear hb2); (try clear hk); (try clear hi)) | ((with_reducible refine gate_callee (f := 11) rfl ?_); refine goesL_ (some 47) rfl rfl Tryz.func11 (by kernel_rfl) rfl #[.string (⟨#[126]⟩ : ByteArray), .string a0, .string (⟨#[48]⟩ : ByteArray)] rfl bkA ?_; (with_reducible refine (Hd.scalarDyad.calls kj2 (⟨#[126]⟩ : ByteArray) a0 (⟨#[48]⟩ : ByteArray) t111 t112 _ ?side1 A13.out).mono ?_); (case side1 => exact Hd.GL.below HGL.out bkB); rintro e w103 ⟨rfl, hb⟩; refine ⟨_, rfl, ?_⟩; replace HB := bkS hb; clear hb; (try clear hb2); (try clear hk); (try clear hi)))
              go_ret
              exact ⟨bkE, bkB⟩
        · replace c14 := Bool.eq_false_iff.mpr c14
          subst c14
          rw [if_neg Bool.false_ne_true] at H
          obtain rfl := Option.some.inj H
          go_wp2_with (first | ((with_reducible refine gate_callee (f := 14) rfl ?_); refine goesL_ (some 26) rfl rfl Tryz.func14 (by kernel_rfl) rfl #[.string (⟨#[126]⟩ : ByteArray), .string a0] rfl bkA ?_; (with_reducible refine (Hd.scalarMonad.calls kj2 (⟨#[126]⟩ : ByteArray) a0 t103 t104 _ ?side1 A9.out).mono ?_); (case side1 => exact Hd.GL.below HGL.out bkB); rintro e w104 ⟨rfl, hb⟩; refine ⟨_, rfl, ?_⟩; replace HB := bkS hb; clear hb; (try clear hb2); (try clear hk); (try clear hi)) | ((with_reducible refine gate_callee (f := 14) rfl ?_); refine goesL_ (some 31) rfl rfl Tryz.func14 (by kernel_rfl) rfl #[.string (⟨#[126]⟩ : ByteArray), .string t103] rfl bkA ?_; (with_reducible refine (Hd.scalarMonad.calls kj2 (⟨#[126]⟩ : ByteArray) t103 t105 t106 _ ?side1 A10.out).mono ?_); (case side1 => exact Hd.GL.below HGL.out bkB); rintro e w105 ⟨rfl, hb⟩; refine ⟨_, rfl, ?_⟩; replace HB := bkS hb; clear hb; (try clear hb2); (try clear hk); (try clear hi)) | ((with_reducible refine gate_callee (f := 14) rfl ?_); refine goesL_ (some 36) rfl rfl Tryz.func14 (by kernel_rfl) rfl #[.string (⟨#[42]⟩ : ByteArray), .string a0] rfl bkA ?_; (with_reducible refine (Hd.scalarMonad.calls kj2 (⟨#[42]⟩ : ByteArray) a0 t107 t108 _ ?side1 A11.out).mono ?_); (case side1 => exact Hd.GL.below HGL.out bkB); rintro e w106 ⟨rfl, hb⟩; refine ⟨_, rfl, ?_⟩; replace HB := bkS hb; clear hb; (try clear hb2); (try clear hk); (try clear hi)) | ((with_reducible refine gate_callee (f := 11) rfl ?_); refine goesL_ (some 42) rfl rfl Tryz.func11 (by kernel_rfl) rfl #[.string (⟨#[42]⟩ : ByteArray), .string t107, .string t107] rfl bkA ?_; (with_reducible refine (Hd.scalarDyad.calls kj2 (⟨#[42]⟩ : ByteArray) t107 t107 t109 t110 _ ?side1 A12.out).mono ?_); (case side1 => exact Hd.GL.below HGL.out bkB); rintro e w107 ⟨rfl, hb⟩; refine ⟨_, rfl, ?_⟩; replace HB := bkS hb; clear hb; (try clear hb2); (try clear hk); (try clear hi)) | ((with_reducible refine gate_callee (f := 11) rfl ?_); refine goesL_ (some 47) rfl rfl Tryz.func11 (by kernel_rfl) rfl #[.string (⟨#[126]⟩ : ByteArray), .string a0, .string (⟨#[48]⟩ : ByteArray)] rfl bkA ?_; (with_reducible refine (Hd.scalarDyad.calls kj2 (⟨#[126]⟩ : ByteArray) a0 (⟨#[48]⟩ : ByteArray) t111 t112 _ ?side1 A13.out).mono ?_); (case side1 => exact Hd.GL.below HGL.out bkB); rintro e w108 ⟨rfl, hb⟩; refine ⟨_, rfl, ?_⟩; replace HB := bkS hb; clear hb; (try clear hb2); (try clear hk); (try clear hi)))
          go_ret
          exact ⟨bkE, bkB⟩
/-- THE ONE PURE STATEMENT of reredoslaw12_ScalarBits: yours. -/
def reredoslaw12_ScalarBits.Pure : Prop := ∀ (a0 : ByteArray), a0.size ≤ 140737488351232 → ∃ k, reredoslaw12_ScalarBits.f k a0 = some true
theorem reredoslaw12_ScalarBits.walk (P : reredoslaw12_ScalarBits.Pure) (a0 : ByteArray) (w : World) (w0 : a0.size ≤ 140737488351232) (hG : Hd.GL w) :
    Calls Tryz.prog 6 #[.string a0] w fun e w' => e = .returned (.bool true) ∧ Below w.heap.size w w' := by
  obtain ⟨k, h⟩ := P a0 w0
  refine (reredoslaw12_ScalarBits.calls k a0 true w hG h).mono ?_
  rintro e w' ⟨rfl, hd⟩
  exact ⟨rfl, hd⟩
end Go.Proofs.YtaidmohjnbibiaaGreatDoor.LScalarBits
end
