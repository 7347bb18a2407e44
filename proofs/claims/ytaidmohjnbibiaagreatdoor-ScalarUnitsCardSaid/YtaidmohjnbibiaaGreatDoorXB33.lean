/- What the law leans on, part 34: declarations of several texts of ours, in their order. -/
import Derived.Test.YtaidmohjnbibiaaGreatDoorProg
import Derived.Below
import Derived.Deep.Draws
import Derived.Deep.AppendLies
import Derived.Maps.AppendAt
import Derived.OwnWalk
import Derived.Laws.BytesArg
import Derived.Laws.MakeOwn
import Derived.Laws.OwnMore
import Derived.Deep.OwnRows
import Derived.Tactics
import Derived.Lib.ConvBytes
import Derived.Laws.Slices
import Derived.WalkKit
import Derived.KernelRfl
import Derived.RowKit3
import Derived.Deep.LoopGhost
import Derived.Deep.QuietTactic
import Derived.BigQuiet
import Derived.WideLaws
import Derived.Deep.DeepCutAuto
import Derived.Deep.CutBlock
import Derived.Deep.RegionHeld3
import Derived.Laws.Rows
import Derived.Lib.AppendStr
import Derived.ArgAppend
import Derived.Laws.IdiomCopy
import Derived.OrdersHeld
import Derived.Laws.BitsLemmas
import Derived.RowKit
import Derived.Test.YtaidmohjnbibiaaGreatDoorXB0
import Derived.Test.YtaidmohjnbibiaaGreatDoorXB1
import Derived.Test.YtaidmohjnbibiaaGreatDoorXB26
import Derived.Test.YtaidmohjnbibiaaGreatDoorXB2
import Derived.Test.YtaidmohjnbibiaaGreatDoorXB9
import Derived.Test.YtaidmohjnbibiaaGreatDoorXB21
import Derived.Test.YtaidmohjnbibiaaGreatDoorXB25
import Derived.Test.YtaidmohjnbibiaaGreatDoorXB30
section
namespace Go.Proofs.YtaidmohjnbibiaaGreatDoor.LScalarUnits
open Go.RowKit Go.Proofs.YtaidmohjnbibiaaGreatDoorW.PrintWords Go.Proofs.YtaidmohjnbibiaaGreatDoorW.PrintLast Go.Proofs.YtaidmohjnbibiaaGreatDoorW.PrintMore Go.Proofs.YtaidmohjnbibiaaGreatDoor.B Go.Proofs.YtaidmohjnbibiaaGreatDoor.K Go.Proofs.YtaidmohjnbibiaaGreatDoor.L Go.Proofs.YtaidmohjnbibiaaGreatDoor.M Go.Proofs.YtaidmohjnbibiaaGreatDoor.SC Go.Proofs.YtaidmohjnbibiaaGreatDoor.SL
attribute [local go_sem] max2_int min2_int max_two min_two max_three min_three max_four min_four
set_option linter.unusedVariables false
set_option linter.unusedSimpArgs false
/-! ### reredoslaw12_ScalarUnits: function 5 -/
def reredoslaw12_ScalarUnits.f (k : Nat) (a0 : ByteArray) (a1 : ByteArray) : Option (Bool) := (SL.reredoslaw12_shown.f k).bind fun t101 => (if (a1.size : Int) > 200 then (some t101) else ((SC.scalar_Unit.f a0).bind fun bt102 => (if bt102.2 = true then ((Hd.scalarDyad.f k a0 a1 bt102.1).bind fun bt104 => ((Hd.scalarDyad.f k a0 bt102.1 a1).bind fun bt106 => ((Go.Proofs.YtaidmohjnbibiaaGreatDoor.K.num_May.f a1).bind fun t108 => (if t108 = true then (if t101 = true then (if bt104.2 = 0 then (if bt106.2 = 0 then (if bt104.1.toList = a1.toList then (some (bt106.1.toList == a1.toList)) else (some false)) else (some false)) else (some false)) else (some false)) else (if t101 = true then (if bt104.2 = 1 then (some (bt106.2 == 1)) else (some false)) else (some false)))))) else (if t101 = true then (if bt102.1.toList = ([] : List UInt8) then (if a0.toList = ([43] : List UInt8) then (some false) else (some (a0.toList != ([42] : List UInt8)))) else (some false)) else (some false)))))
theorem reredoslaw12_ScalarUnits.mono : ∀ a0 a1 k, LeO (reredoslaw12_ScalarUnits.f k a0 a1) (reredoslaw12_ScalarUnits.f (k + 1) a0 a1) := by
  intro a0 a1 k
  unfold reredoslaw12_ScalarUnits.f
  repeat' first
      | (with_reducible exact Hd.scalarDyad.mono _ _ _ _)
      | (with_reducible exact SL.reredoslaw12_shown.mono _)
      | (with_reducible exact LeO.refl _)
      | (with_reducible exact LeO.none _)
      | (with_reducible refine LeO.ite ?_ ?_)
      | (with_reducible refine LeO.bind ?_ (fun _ => ?_))
      | exact Hd.scalarDyad.mono _ _ _ _
      | exact SL.reredoslaw12_shown.mono _
      | exact LeO.none _
      | refine LeO.ite ?_ ?_
      | refine LeO.bind ?_ (fun _ => ?_)
set_option maxHeartbeats 8000000 in
set_option maxRecDepth 100000 in
theorem reredoslaw12_ScalarUnits.calls (k : Nat) (a0 : ByteArray) (a1 : ByteArray) (r : Bool) (w : World) (hG : Hd.GL w) (h : reredoslaw12_ScalarUnits.f k a0 a1 = some r) :
    Calls Tryz.prog 5 #[.string a0, .string a1] w fun e w' => e = .returned (.bool r) ∧ Below w.heap.size w w' := by
  have HGL := Aside0.mk hG
  clear hG
  have HB := Aside0.mk (Below.refl w.heap.size w)
  have H : ((SL.reredoslaw12_shown.f k).bind fun t101 => (if (a1.size : Int) > 200 then (some t101) else ((SC.scalar_Unit.f a0).bind fun bt102 => (if bt102.2 = true then ((Hd.scalarDyad.f k a0 a1 bt102.1).bind fun bt104 => ((Hd.scalarDyad.f k a0 bt102.1 a1).bind fun bt106 => ((Go.Proofs.YtaidmohjnbibiaaGreatDoor.K.num_May.f a1).bind fun t108 => (if t108 = true then (if t101 = true then (if bt104.2 = 0 then (if bt106.2 = 0 then (if bt104.1.toList = a1.toList then (some (bt106.1.toList == a1.toList)) else (some false)) else (some false)) else (some false)) else (some false)) else (if t101 = true then (if bt104.2 = 1 then (some (bt106.2 == 1)) else (some false)) else (some false)))))) else (if t101 = true then (if bt102.1.toList = ([] : List UInt8) then (if a0.toList = ([43] : List UInt8) then (some false) else (some (a0.toList != ([42] : List UInt8)))) else (some false)) else (some false)))))) = some r := h
  clear h
  obtain ⟨t101, A30, H⟩ := Option.bind_eq_some_iff.mp H
  try dsimp only at H
  have A3 := Aside0.mk A30
  clear A30
  by_cases c4 : (a1.size : Int) > 200
  · rw [if_pos c4] at H
    have c4b0 : decide (200 < (a1.size : Int)) = true := decide_eq_true c4
    have c4b1 : decide (200 < a1.size) = true := decide_eq_true (by omega)
    clear c4
    obtain rfl := Option.some.inj H
    go_enter Tryz.func5, Tryz.ntmps5
    go_wp2_with (first | ((with_reducible refine gate_callee (f := 9) rfl ?_); refine goesL_ (some 12) rfl rfl Tryz.func9 (by kernel_rfl) rfl #[] rfl bkA ?_; (with_reducible refine (SL.reredoslaw12_shown.calls k  t101 _ ?side1 A3.out).mono ?_); (case side1 => exact Hd.GL.below HGL.out bkB); rintro e w5 ⟨rfl, hb⟩; refine ⟨_, rfl, ?_⟩; replace HB := bkS hb; clear hb; (try clear hb2); (try clear hk); (try clear hi)))
    go_ret
    exact ⟨bkE, bkB⟩
  · rw [if_neg c4] at H
    have c4b0 : decide (200 < (a1.size : Int)) = false := decide_eq_false c4
    have c4b1 : decide (200 < a1.size) = false := decide_eq_false (by omega)
    clear c4
    obtain ⟨⟨t102, t103⟩, A60, H⟩ := Option.bind_eq_some_iff.mp H
    try dsimp only at H
    have A6 := Aside0.mk A60
    clear A60
    by_cases c7 : t103 = true
    · subst c7
      rw [if_pos rfl] at H
      obtain ⟨⟨t104, t105⟩, A80, H⟩ := Option.bind_eq_some_iff.mp H
      try dsimp only at H
      have A8 := Aside0.mk A80
      clear A80
      obtain ⟨⟨t106, t107⟩, A90, H⟩ := Option.bind_eq_some_iff.mp H
      try dsimp only at H
      have A9 := Aside0.mk A90
      clear A90
      obtain ⟨t108, A100, H⟩ := Option.bind_eq_some_iff.mp H
      try dsimp only at H
      have A10 := Aside0.mk A100
      clear A100
      by_cases c11 : t108 = true
      · subst c11
        rw [if_pos rfl] at H
        by_cases c12 : t101 = true
        · subst c12
          rw [if_pos rfl] at H
          by_cases c13 : t105 = 0
          · rw [if_pos c13] at H
            have c13b0 : (t105 == 0) = true := beq_iff_eq.mpr c13
            have c13b1 : (t105 != 0) = false := bne_eq_false_iff_eq.mpr c13
            clear c13
            by_cases c14 : t107 = 0
            · rw [if_pos c14] at H
              have c14b0 : (t107 == 0) = true := beq_iff_eq.mpr c14
              have c14b1 : (t107 != 0) = false := bne_eq_false_iff_eq.mpr c14
              clear c14
              by_cases c15 : t104.toList = a1.toList
              · rw [if_pos c15] at H
                have c15b0 : (t104.toList == a1.toList) = true := beq_iff_eq.mpr c15
                have c15b1 : (t104.toList != a1.toList) = false := bne_eq_false_iff_eq.mpr c15
                clear c15
                obtain rfl := Option.some.inj H
                go_enter Tryz.func5, Tryz.ntmps5
                go_wp2_with (first | ((with_reducible refine gate_callee (f := 9) rfl ?_); refine goesL_ (some 12) rfl rfl Tryz.func9 (by kernel_rfl) rfl #[] rfl bkA ?_; (with_reducible refine (SL.reredoslaw12_shown.calls k  true _ ?side1 A3.out).mono ?_); (case side1 => exact Hd.GL.below HGL.out bkB); rintro e w16 ⟨rfl, hb⟩; refine ⟨_, rfl, ?_⟩; replace HB := bkS hb; clear hb; (try clear hb2); (try clear hk); (try clear hi)) | ((with_reducible refine gate_callee (f := 13) rfl ?_); refine goesL_ (some 19) rfl rfl Tryz.func13 (by kernel_rfl) rfl #[.string a0] rfl bkA ?_; (with_reducible refine (SC.scalar_Unit.calls a0 t102 true _ A6.out).mono ?_); rintro e w' ⟨rfl, ⟨nd, rfl⟩⟩; refine ⟨_, rfl, ?_⟩) | ((with_reducible refine gate_callee (f := 11) rfl ?_); refine goesL_ (some 41) rfl rfl Tryz.func11 (by kernel_rfl) rfl #[.string a0, .string a1, .string t102] rfl bkA ?_; (with_reducible refine (Hd.scalarDyad.calls k a0 a1 t102 t104 t105 _ ?side1 A8.out).mono ?_); (case side1 => exact Hd.GL.below HGL.out bkB); rintro e w17 ⟨rfl, hb⟩; refine ⟨_, rfl, ?_⟩; replace HB := bkS hb; clear hb; (try clear hb2); (try clear hk); (try clear hi)) | ((with_reducible refine gate_callee (f := 11) rfl ?_); refine goesL_ (some 48) rfl rfl Tryz.func11 (by kernel_rfl) rfl #[.string a0, .string t102, .string a1] rfl bkA ?_; (with_reducible refine (Hd.scalarDyad.calls k a0 t102 a1 t106 t107 _ ?side1 A9.out).mono ?_); (case side1 => exact Hd.GL.below HGL.out bkB); rintro e w18 ⟨rfl, hb⟩; refine ⟨_, rfl, ?_⟩; replace HB := bkS hb; clear hb; (try clear hb2); (try clear hk); (try clear hi)) | ((with_reducible refine gate_callee (f := 10) rfl ?_); refine goesL_ (some 52) rfl rfl Tryz.func10 (by kernel_rfl) rfl #[.string a1] rfl bkA ?_; (with_reducible refine (Go.Proofs.YtaidmohjnbibiaaGreatDoor.K.num_May.calls a1 true _ A10.out).mono ?_); rintro e w19 ⟨rfl, hb⟩; refine ⟨_, rfl, ?_⟩; replace HB := bkS hb; clear hb; (try clear hb2); (try clear hk); (try clear hi)))
                go_ret
                exact ⟨bkE, bkB⟩
              · rw [if_neg c15] at H
                have c15b0 : (t104.toList == a1.toList) = false := beq_eq_false_iff_ne.mpr c15
                have c15b1 : (t104.toList != a1.toList) = true := bne_iff_ne.mpr c15
                obtain rfl := Option.some.inj H
                go_enter Tryz.func5, Tryz.ntmps5
                go_wp2_with (first | ((with_reducible refine gate_callee (f := 9) rfl ?_); refine goesL_ (some 12) rfl rfl Tryz.func9 (by kernel_rfl) rfl #[] rfl bkA ?_; (with_reducible refine (SL.reredoslaw12_shown.calls k  true _ ?side1 A3.out).mono ?_); (case side1 => exact Hd.GL.below HGL.out bkB); rintro e w20 ⟨rfl, hb⟩; refine ⟨_, rfl, ?_⟩; replace HB := bkS hb; clear hb; (try clear hb2); (try clear hk); (try clear hi)) | ((with_reducible refine gate_callee (f := 13) rfl ?_); refine goesL_ (some 19) rfl rfl Tryz.func13 (by kernel_rfl) rfl #[.string a0] rfl bkA ?_; (with_reducible refine (SC.scalar_Unit.calls a0 t102 true _ A6.out).mono ?_); rintro e w' ⟨rfl, ⟨nd, rfl⟩⟩; refine ⟨_, rfl, ?_⟩) | ((with_reducible refine gate_callee (f := 11) rfl ?_); refine goesL_ (some 41) rfl rfl Tryz.func11 (by kernel_rfl) rfl #[.string a0, .string a1, .string t102] rfl bkA ?_; (with_reducible refine (Hd.scalarDyad.calls k a0 a1 t102 t104 t105 _ ?side1 A8.out).mono ?_); (case side1 => exact Hd.GL.below HGL.out bkB); rintro e w21 ⟨rfl, hb⟩; refine ⟨_, rfl, ?_⟩; replace HB := bkS hb; clear hb; (try clear hb2); (try clear hk); (try clear hi)) | ((with_reducible refine gate_callee (f := 11) rfl ?_); refine goesL_ (some 48) rfl rfl Tryz.func11 (by kernel_rfl) rfl #[.string a0, .string t102, .string a1] rfl bkA ?_; (with_reducible refine (Hd.scalarDyad.calls k a0 t102 a1 t106 t107 _ ?side1 A9.out).mono ?_); (case side1 => exact Hd.GL.below HGL.out bkB); rintro e w22 ⟨rfl, hb⟩; refine ⟨_, rfl, ?_⟩; replace HB := bkS hb; clear hb; (try clear hb2); (try clear hk); (try clear hi)) | ((with_reducible refine gate_callee (f := 10) rfl ?_); refine goesL_ (some 52) rfl rfl Tryz.func10 (by kernel_rfl) rfl #[.string a1] rfl bkA ?_; (with_reducible refine (Go.Proofs.YtaidmohjnbibiaaGreatDoor.K.num_May.calls a1 true _ A10.out).mono ?_); rintro e w23 ⟨rfl, hb⟩; refine ⟨_, rfl, ?_⟩; replace HB := bkS hb; clear hb; (try clear hb2); (try clear hk); (try clear hi)))
                go_ret
                exact ⟨bkE, bkB⟩
            · rw [if_neg c14] at H
              have c14b0 : (t107 == 0) = false := beq_eq_false_iff_ne.mpr c14
              have c14b1 : (t107 != 0) = true := bne_iff_ne.mpr c14
              obtain rfl := Option.some.inj H
              go_enter Tryz.func5, Tryz.ntmps5
              go_wp2_with (first | ((with_reducible refine gate_callee (f := 9) rfl ?_); refine goesL_ (some 12) rfl rfl Tryz.func9 (by kernel_rfl) rfl #[] rfl bkA ?_; (with_reducible refine (SL.reredoslaw12_shown.calls k  true _ ?side1 A3.out).mono ?_); (case side1 => exact Hd.GL.below HGL.out bkB); rintro e w24 ⟨rfl, hb⟩; refine ⟨_, rfl, ?_⟩; replace HB := bkS hb; clear hb; (try clear hb2); (try clear hk); (try clear hi)) | ((with_reducible refine gate_callee (f := 13) rfl ?_); refine goesL_ (some 19) rfl rfl Tryz.func13 (by kernel_rfl) rfl #[.string a0] rfl bkA ?_; (with_reducible refine (SC.scalar_Unit.calls a0 t102 true _ A6.out).mono ?_); rintro e w' ⟨rfl, ⟨nd, rfl⟩⟩; refine ⟨_, rfl, ?_⟩) | ((with_reducible refine gate_callee (f := 11) rfl ?_); refine goesL_ (some 41) rfl rfl Tryz.func11 (by kernel_rfl) rfl #[.string a0, .string a1, .string t102] rfl bkA ?_; (with_reducible refine (Hd.scalarDyad.calls k a0 a1 t102 t104 t105 _ ?side1 A8.out).mono ?_); (case side1 => exact Hd.GL.below HGL.out bkB); rintro e w25 ⟨rfl, hb⟩; refine ⟨_, rfl, ?_⟩; replace HB := bkS hb; clear hb; (try clear hb2); (try clear hk); (try clear hi)) | ((with_reducible refine gate_callee (f := 11) rfl ?_); refine goesL_ (some 48) rfl rfl Tryz.func11 (by kernel_rfl) rfl #[.string a0, .string t102, .string a1] rfl bkA ?_; (with_reducible refine (Hd.scalarDyad.calls k a0 t102 a1 t106 t107 _ ?side1 A9.out).mono ?_); (case side1 => exact Hd.GL.below HGL.out bkB); rintro e w26 ⟨rfl, hb⟩; refine ⟨_, rfl, ?_⟩; replace HB := bkS hb; clear hb; (try clear hb2); (try clear hk); (try clear hi)) | ((with_reducible refine gate_callee (f := 10) rfl ?_); refine goesL_ (some 52) rfl rfl Tryz.func10 (by kernel_rfl) rfl #[.string a1] rfl bkA ?_; (with_reducible refine (Go.Proofs.YtaidmohjnbibiaaGreatDoor.K.num_May.calls a1 true _ A10.out).mono ?_); rintro e w27 ⟨rfl, hb⟩; refine ⟨_, rfl, ?_⟩; replace HB := bkS hb; clear hb; (try clear hb2); (try clear hk); (try clear hi)))
              go_ret
              exact ⟨bkE, bkB⟩
          · rw [if_neg c13] at H
            have c13b0 : (t105 == 0) = false := beq_eq_false_iff_ne.mpr c13
            have c13b1 : (t105 != 0) = true := bne_iff_ne.mpr c13
            obtain rfl := Option.some.inj H
            go_enter Tryz.func5, Tryz.ntmps5
            go_wp2_with (first | ((with_reducible refine gate_callee (f := 9) rfl ?_); refine goesL_ (some 12) rfl rfl Tryz.func9 (by kernel_rfl) rfl #[] rfl bkA ?_; (with_reducible refine (SL.reredoslaw12_shown.calls k  true _ ?side1 A3.out).mono ?_); (case side1 => exact Hd.GL.below HGL.out bkB); rintro e w28 ⟨rfl, hb⟩; refine ⟨_, rfl, ?_⟩; replace HB := bkS hb; clear hb; (try clear hb2); (try clear hk); (try clear hi)) | ((with_reducible refine gate_callee (f := 13) rfl ?_); refine goesL_ (some 19) rfl rfl Tryz.func13 (by kernel_rfl) rfl #[.string a0] rfl bkA ?_; (with_reducible refine (SC.scalar_Unit.calls a0 t102 true _ A6.out).mono ?_); rintro e w' ⟨rfl, ⟨nd, rfl⟩⟩; refine ⟨_, rfl, ?_⟩) | ((with_reducible refine gate_callee (f := 11) rfl ?_); refine goesL_ (some 41) rfl rfl Tryz.func11 (by kernel_rfl) rfl #[.string a0, .string a1, .string t102] rfl bkA ?_; (with_reducible refine (Hd.scalarDyad.calls k a0 a1 t102 t104 t105 _ ?side1 A8.out).mono ?_); (case side1 => exact Hd.GL.below HGL.out bkB); rintro e w29 ⟨rfl, hb⟩; refine ⟨_, rfl, ?_⟩; replace HB := bkS hb; clear hb; (try clear hb2); (try clear hk); (try clear hi)) | ((with_reducible refine gate_callee (f := 11) rfl ?_); refine goesL_ (some 48) rfl rfl Tryz.func11 (by kernel_rfl) rfl #[.string a0, .string t102, .string a1] rfl bkA ?_; (with_reducible refine (Hd.scalarDyad.calls k a0 t102 a1 t106 t107 _ ?side1 A9.out).mono ?_); (case side1 => exact Hd.GL.below HGL.out bkB); rintro e w30 ⟨rfl, hb⟩; refine ⟨_, rfl, ?_⟩; replace HB := bkS hb; clear hb; (try clear hb2); (try clear hk); (try clear hi)) | ((with_reducible refine gate_callee (f := 10) rfl ?_); refine goesL_ (some 52) rfl rfl Tryz.func10 (by kernel_rfl) rfl #[.string a1] rfl bkA ?_; (with_reducible refine (Go.Proofs.YtaidmohjnbibiaaGreatDoor.K.num_May.calls a1 true _ A10.out).mono ?_); rintro e w31 ⟨rfl, hb⟩; refine ⟨_, rfl, ?_⟩; replace HB := bkS hb; clear hb; (try clear hb2); (try clear hk); (try clear hi)))
            go_ret
            exact ⟨bkE, bkB⟩
        · replace c12 := Bool.eq_false_iff.mpr c12
          subst c12
          rw [if_neg Bool.false_ne_true] at H
          obtain rfl := Option.some.inj H
          go_enter Tryz.func5, Tryz.ntmps5
          go_wp2_with (first | ((with_reducible refine gate_callee (f := 9) rfl ?_); refine goesL_ (some 12) rfl rfl Tryz.func9 (by kernel_rfl) rfl #[] rfl bkA ?_; (with_reducible refine (SL.reredoslaw12_shown.calls k  false _ ?side1 A3.out).mono ?_); (case side1 => exact Hd.GL.below HGL.out bkB); rintro e w32 ⟨rfl, hb⟩; refine ⟨_, rfl, ?_⟩; replace HB := bkS hb; clear hb; (try clear hb2); (try clear hk); (try clear hi)) | ((with_reducible refine gate_callee (f := 13) rfl ?_); refine goesL_ (some 19) rfl rfl Tryz.func13 (by kernel_rfl) rfl #[.string a0] rfl bkA ?_; (with_reducible refine (SC.scalar_Unit.calls a0 t102 true _ A6.out).mono ?_); rintro e w' ⟨rfl, ⟨nd, rfl⟩⟩; refine ⟨_, rfl, ?_⟩) | ((with_reducible refine gate_callee (f := 11) rfl ?_); refine goesL_ (some 41) rfl rfl Tryz.func11 (by kernel_rfl) rfl #[.string a0, .string a1, .string t102] rfl bkA ?_; (with_reducible refine (Hd.scalarDyad.calls k a0 a1 t102 t104 t105 _ ?side1 A8.out).mono ?_); (case side1 => exact Hd.GL.below HGL.out bkB); rintro e w33 ⟨rfl, hb⟩; refine ⟨_, rfl, ?_⟩; replace HB := bkS hb; clear hb; (try clear hb2); (try clear hk); (try clear hi)) | ((with_reducible refine gate_callee (f := 11) rfl ?_); refine goesL_ (some 48) rfl rfl Tryz.func11 (by kernel_rfl) rfl #[.string a0, .string t102, .string a1] rfl bkA ?_; (with_reducible refine (Hd.scalarDyad.calls k a0 t102 a1 t106 t107 _ ?side1 A9.out).mono ?_); (case side1 => exact Hd.GL.below HGL.out bkB); rintro e w34 ⟨rfl, hb⟩; refine ⟨_, rfl, ?_⟩; replace HB := bkS hb; clear hb; (try clear hb2); (try clear hk); (try clear hi)) | ((with_reducible refine gate_callee (f := 10) rfl ?_); refine goesL_ (some 52) rfl rfl Tryz.func10 (by kernel_rfl) rfl #[.string a1] rfl bkA ?_; (with_reducible refine (Go.Proofs.YtaidmohjnbibiaaGreatDoor.K.num_May.calls a1 true _ A10.out).mono ?_); rintro e w35 ⟨rfl, hb⟩; refine ⟨_, rfl, ?_⟩; replace HB := bkS hb; clear hb; (try clear hb2); (try clear hk); (try clear hi)))
          go_ret
          exact ⟨bkE, bkB⟩
      · replace c11 := Bool.eq_false_iff.mpr c11
        subst c11
        rw [if_neg Bool.false_ne_true] at H
        by_cases c36 : t101 = true
        · subst c36
          rw [if_pos rfl] at H
          by_cases c37 : t105 = 1
          · rw [if_pos c37] at H
            have c37b0 : (t105 == 1) = true := beq_iff_eq.mpr c37
            have c37b1 : (t105 != 1) = false := bne_eq_false_iff_eq.mpr c37
            clear c37
            obtain rfl := Option.some.inj H
            go_enter Tryz.func5, Tryz.ntmps5
            go_wp2_with (first | ((with_reducible refine gate_callee (f := 9) rfl ?_); refine goesL_ (some 12) rfl rfl Tryz.func9 (by kernel_rfl) rfl #[] rfl bkA ?_; (with_reducible refine (SL.reredoslaw12_shown.calls k  true _ ?side1 A3.out).mono ?_); (case side1 => exact Hd.GL.below HGL.out bkB); rintro e w38 ⟨rfl, hb⟩; refine ⟨_, rfl, ?_⟩; replace HB := bkS hb; clear hb; (try clear hb2); (try clear hk); (try clear hi)) | ((with_reducible refine gate_callee (f := 13) rfl ?_); refine goesL_ (some 19) rfl rfl Tryz.func13 (by kernel_rfl) rfl #[.string a0] rfl bkA ?_; (with_reducible refine (SC.scalar_Unit.calls a0 t102 true _ A6.out).mono ?_); rintro e w' ⟨rfl, ⟨nd, rfl⟩⟩; refine ⟨_, rfl, ?_⟩) | ((with_reducible refine gate_callee (f := 11) rfl ?_); refine goesL_ (some 41) rfl rfl Tryz.func11 (by kernel_rfl) rfl #[.string a0, .string a1, .string t102] rfl bkA ?_; (with_reducible refine (Hd.scalarDyad.calls k a0 a1 t102 t104 t105 _ ?side1 A8.out).mono ?_); (case side1 => exact Hd.GL.below HGL.out bkB); rintro e w39 ⟨rfl, hb⟩; refine ⟨_, rfl, ?_⟩; replace HB := bkS hb; clear hb; (try clear hb2); (try clear hk); (try clear hi)) | ((with_reducible refine gate_callee (f := 11) rfl ?_); refine goesL_ (some 48) rfl rfl Tryz.func11 (by kernel_rfl) rfl #[.string a0, .string t102, .string a1] rfl bkA ?_; (with_reducible refine (Hd.scalarDyad.calls k a0 t102 a1 t106 t107 _ ?side1 A9.out).mono ?_); (case side1 => exact Hd.GL.below HGL.out bkB); rintro e w40 ⟨rfl, hb⟩; refine ⟨_, rfl, ?_⟩; replace HB := bkS hb; clear hb; (try clear hb2); (try clear hk); (try clear hi)) | ((with_reducible refine gate_callee (f := 10) rfl ?_); refine goesL_ (some 52) rfl rfl Tryz.func10 (by kernel_rfl) rfl #[.string a1] rfl bkA ?_; (with_reducible refine (Go.Proofs.YtaidmohjnbibiaaGreatDoor.K.num_May.calls a1 false _ A10.out).mono ?_); rintro e w41 ⟨rfl, hb⟩; refine ⟨_, rfl, ?_⟩; replace HB := bkS hb; clear hb; (try clear hb2); (try clear hk); (try clear hi)))
            go_ret
            exact ⟨bkE, bkB⟩
          · rw [if_neg c37] at H
            have c37b0 : (t105 == 1) = false := beq_eq_false_iff_ne.mpr c37
            have c37b1 : (t105 != 1) = true := bne_iff_ne.mpr c37
            obtain rfl := Option.some.inj H
            go_enter Tryz.func5, Tryz.ntmps5
            go_wp2_with (first | ((with_reducible refine gate_callee (f := 9) rfl ?_); refine goesL_ (some 12) rfl rfl Tryz.func9 (by kernel_rfl) rfl #[] rfl bkA ?_; (with_reducible refine (SL.reredoslaw12_shown.calls k  true _ ?side1 A3.out).mono ?_); (case side1 => exact Hd.GL.below HGL.out bkB); rintro e w42 ⟨rfl, hb⟩; refine ⟨_, rfl, ?_⟩; replace HB := bkS hb; clear hb; (try clear hb2); (try clear hk); (try clear hi)) | ((with_reducible refine gate_callee (f := 13) rfl ?_); refine goesL_ (some 19) rfl rfl Tryz.func13 (by kernel_rfl) rfl #[.string a0] rfl bkA ?_; (with_reducible refine (SC.scalar_Unit.calls a0 t102 true _ A6.out).mono ?_); rintro e w' ⟨rfl, ⟨nd, rfl⟩⟩; refine ⟨_, rfl, ?_⟩) | ((with_reducible refine gate_callee (f := 11) rfl ?_); refine goesL_ (some 41) rfl rfl Tryz.func11 (by kernel_rfl) rfl #[.string a0, .string a1, .string t102] rfl bkA ?_; (with_reducible refine (Hd.scalarDyad.calls k a0 a1 t102 t104 t105 _ ?side1 A8.out).mono ?_); (case side1 => exact Hd.GL.below HGL.out bkB); rintro e w43 ⟨rfl, hb⟩; refine ⟨_, rfl, ?_⟩; replace HB := bkS hb; clear hb; (try clear hb2); (try clear hk); (try clear hi)) | ((with_reducible refine gate_callee (f := 11) rfl ?_); refine goesL_ (some 48) rfl rfl Tryz.func11 (by kernel_rfl) rfl #[.string a0, .string t102, .string a1] rfl bkA ?_; (with_reducible refine (Hd.scalarDyad.calls k a0 t102 a1 t106 t107 _ ?side1 A9.out).mono ?_); (case side1 => exact Hd.GL.below HGL.out bkB); rintro e w44 ⟨rfl, hb⟩; refine ⟨_, rfl, ?_⟩; replace HB := bkS hb; clear hb; (try clear hb2); (try clear hk); (try clear hi)) | ((with_reducible refine gate_callee (f := 10) rfl ?_); refine goesL_ (some 52) rfl rfl Tryz.func10 (by kernel_rfl) rfl #[.string a1] rfl bkA ?_; (with_reducible refine (Go.Proofs.YtaidmohjnbibiaaGreatDoor.K.num_May.calls a1 false _ A10.out).mono ?_); rintro e w45 ⟨rfl, hb⟩; refine ⟨_, rfl, ?_⟩; replace HB := bkS hb; clear hb; (try clear hb2); (try clear hk); (try clear hi)))
            go_ret
            exact ⟨bkE, bkB⟩
        · replace c36 := Bool.eq_false_iff.mpr c36
          subst c36
          rw [if_neg Bool.false_ne_true] at H
          obtain rfl := Option.some.inj H
          go_enter Tryz.func5, Tryz.ntmps5
          go_wp2_with (first | ((with_reducible refine gate_callee (f := 9) rfl ?_); refine goesL_ (some 12) rfl rfl Tryz.func9 (by kernel_rfl) rfl #[] rfl bkA ?_; (with_reducible refine (SL.reredoslaw12_shown.calls k  false _ ?side1 A3.out).mono ?_); (case side1 => exact Hd.GL.below HGL.out bkB); rintro e w46 ⟨rfl, hb⟩; refine ⟨_, rfl, ?_⟩; replace HB := bkS hb; clear hb; (try clear hb2); (try clear hk); (try clear hi)) | ((with_reducible refine gate_callee (f := 13) rfl ?_); refine goesL_ (some 19) rfl rfl Tryz.func13 (by kernel_rfl) rfl #[.string a0] rfl bkA ?_; (with_reducible refine (SC.scalar_Unit.calls a0 t102 true _ A6.out).mono ?_); rintro e w' ⟨rfl, ⟨nd, rfl⟩⟩; refine ⟨_, rfl, ?_⟩) | ((with_reducible refine gate_callee (f := 11) rfl ?_); refine goesL_ (some 41) rfl rfl Tryz.func11 (by kernel_rfl) rfl #[.string a0, .string a1, .string t102] rfl bkA ?_; (with_reducible refine (Hd.scalarDyad.calls k a0 a1 t102 t104 t105 _ ?side1 A8.out).mono ?_); (case side1 => exact Hd.GL.below HGL.out bkB); rintro e w47 ⟨rfl, hb⟩; refine ⟨_, rfl, ?_⟩; replace HB := bkS hb; clear hb; (try clear hb2); (try clear hk); (try clear hi)) | ((with_reducible refine gate_callee (f := 11) rfl ?_); refine goesL_ (some 48) rfl rfl Tryz.func11 (by kernel_rfl) rfl #[.string a0, .string t102, .string a1] rfl bkA ?_; (with_reducible refine (Hd.scalarDyad.calls k a0 t102 a1 t106 t107 _ ?side1 A9.out).mono ?_); (case side1 => exact Hd.GL.below HGL.out bkB); rintro e w48 ⟨rfl, hb⟩; refine ⟨_, rfl, ?_⟩; replace HB := bkS hb; clear hb; (try clear hb2); (try clear hk); (try clear hi)) | ((with_reducible refine gate_callee (f := 10) rfl ?_); refine goesL_ (some 52) rfl rfl Tryz.func10 (by kernel_rfl) rfl #[.string a1] rfl bkA ?_; (with_reducible refine (Go.Proofs.YtaidmohjnbibiaaGreatDoor.K.num_May.calls a1 false _ A10.out).mono ?_); rintro e w49 ⟨rfl, hb⟩; refine ⟨_, rfl, ?_⟩; replace HB := bkS hb; clear hb; (try clear hb2); (try clear hk); (try clear hi)))
          go_ret
          exact ⟨bkE, bkB⟩
    · replace c7 := Bool.eq_false_iff.mpr c7
      subst c7
      rw [if_neg Bool.false_ne_true] at H
      by_cases c50 : t101 = true
      · subst c50
        rw [if_pos rfl] at H
        by_cases c51 : t102.toList = ([] : List UInt8)
        · rw [if_pos c51] at H
          have c51b0 : (t102.toList == ([] : List UInt8)) = true := beq_iff_eq.mpr c51
          have c51b1 : (t102.toList != ([] : List UInt8)) = false := bne_eq_false_iff_eq.mpr c51
          clear c51
          by_cases c52 : a0.toList = ([43] : List UInt8)
          · rw [if_pos c52] at H
            have c52b0 : (a0.toList == ([43] : List UInt8)) = true := beq_iff_eq.mpr c52
            have c52b1 : (a0.toList != ([43] : List UInt8)) = false := bne_eq_false_iff_eq.mpr c52
            clear c52
            obtain rfl := Option.some.inj H
            go_enter Tryz.func5, Tryz.ntmps5
            go_wp2_with (first | ((with_reducible refine gate_callee (f := 9) rfl ?_); refine goesL_ (some 12) rfl rfl Tryz.func9 (by kernel_rfl) rfl #[] rfl bkA ?_; (with_reducible refine (SL.reredoslaw12_shown.calls k  true _ ?side1 A3.out).mono ?_); (case side1 => exact Hd.GL.below HGL.out bkB); rintro e w53 ⟨rfl, hb⟩; refine ⟨_, rfl, ?_⟩; replace HB := bkS hb; clear hb; (try clear hb2); (try clear hk); (try clear hi)) | ((with_reducible refine gate_callee (f := 13) rfl ?_); refine goesL_ (some 19) rfl rfl Tryz.func13 (by kernel_rfl) rfl #[.string a0] rfl bkA ?_; (with_reducible refine (SC.scalar_Unit.calls a0 t102 false _ A6.out).mono ?_); rintro e w' ⟨rfl, ⟨nd, rfl⟩⟩; refine ⟨_, rfl, ?_⟩))
            go_ret
            exact ⟨bkE, bkB⟩
          · rw [if_neg c52] at H
            have c52b0 : (a0.toList == ([43] : List UInt8)) = false := beq_eq_false_iff_ne.mpr c52
            have c52b1 : (a0.toList != ([43] : List UInt8)) = true := bne_iff_ne.mpr c52
            obtain rfl := Option.some.inj H
            go_enter Tryz.func5, Tryz.ntmps5
            go_wp2_with (first | ((with_reducible refine gate_callee (f := 9) rfl ?_); refine goesL_ (some 12) rfl rfl Tryz.func9 (by kernel_rfl) rfl #[] rfl bkA ?_; (with_reducible refine (SL.reredoslaw12_shown.calls k  true _ ?side1 A3.out).mono ?_); (case side1 => exact Hd.GL.below HGL.out bkB); rintro e w54 ⟨rfl, hb⟩; refine ⟨_, rfl, ?_⟩; replace HB := bkS hb; clear hb; (try clear hb2); (try clear hk); (try clear hi)) | ((with_reducible refine gate_callee (f := 13) rfl ?_); refine goesL_ (some 19) rfl rfl Tryz.func13 (by kernel_rfl) rfl #[.string a0] rfl bkA ?_; (with_reducible refine (SC.scalar_Unit.calls a0 t102 false _ A6.out).mono ?_); rintro e w' ⟨rfl, ⟨nd, rfl⟩⟩; refine ⟨_, rfl, ?_⟩))
            go_ret
            exact ⟨bkE, bkB⟩
        · rw [if_neg c51] at H
          have c51b0 : (t102.toList == ([] : List UInt8)) = false := beq_eq_false_iff_ne.mpr c51
          have c51b1 : (t102.toList != ([] : List UInt8)) = true := bne_iff_ne.mpr c51
          obtain rfl := Option.some.inj H
          go_enter Tryz.func5, Tryz.ntmps5
          go_wp2_with (first | ((with_reducible refine gate_callee (f := 9) rfl ?_); refine goesL_ (some 12) rfl rfl Tryz.func9 (by kernel_rfl) rfl #[] rfl bkA ?_; (with_reducible refine (SL.reredoslaw12_shown.calls k  true _ ?side1 A3.out).mono ?_); (case side1 => exact Hd.GL.below HGL.out bkB); rintro e w55 ⟨rfl, hb⟩; refine ⟨_, rfl, ?_⟩; replace HB := bkS hb; clear hb; (try clear hb2); (try clear hk); (try clear hi)) | ((with_reducible refine gate_callee (f := 13) rfl ?_); refine goesL_ (some 19) rfl rfl Tryz.func13 (by kernel_rfl) rfl #[.string a0] rfl bkA ?_; (with_reducible refine (SC.scalar_Unit.calls a0 t102 false _ A6.out).mono ?_); rintro e w' ⟨rfl, ⟨nd, rfl⟩⟩; refine ⟨_, rfl, ?_⟩))
          go_ret
          exact ⟨bkE, bkB⟩
      · replace c50 := Bool.eq_false_iff.mpr c50
        subst c50
        rw [if_neg Bool.false_ne_true] at H
        obtain rfl := Option.some.inj H
        go_enter Tryz.func5, Tryz.ntmps5
        go_wp2_with (first | ((with_reducible refine gate_callee (f := 9) rfl ?_); refine goesL_ (some 12) rfl rfl Tryz.func9 (by kernel_rfl) rfl #[] rfl bkA ?_; (with_reducible refine (SL.reredoslaw12_shown.calls k  false _ ?side1 A3.out).mono ?_); (case side1 => exact Hd.GL.below HGL.out bkB); rintro e w56 ⟨rfl, hb⟩; refine ⟨_, rfl, ?_⟩; replace HB := bkS hb; clear hb; (try clear hb2); (try clear hk); (try clear hi)) | ((with_reducible refine gate_callee (f := 13) rfl ?_); refine goesL_ (some 19) rfl rfl Tryz.func13 (by kernel_rfl) rfl #[.string a0] rfl bkA ?_; (with_reducible refine (SC.scalar_Unit.calls a0 t102 false _ A6.out).mono ?_); rintro e w' ⟨rfl, ⟨nd, rfl⟩⟩; refine ⟨_, rfl, ?_⟩))
        go_ret
        exact ⟨bkE, bkB⟩
/-- THE ONE PURE STATEMENT of reredoslaw12_ScalarUnits: yours. -/
def reredoslaw12_ScalarUnits.Pure : Prop := ∀ (a0 : ByteArray) (a1 : ByteArray), a0.size ≤ 140737488351232 → a1.size ≤ 140737488351232 → ∃ k, reredoslaw12_ScalarUnits.f k a0 a1 = some true
theorem reredoslaw12_ScalarUnits.walk (P : reredoslaw12_ScalarUnits.Pure) (a0 : ByteArray) (a1 : ByteArray) (w : World) (w0 : a0.size ≤ 140737488351232) (w1 : a1.size ≤ 140737488351232) (hG : Hd.GL w) :
    Calls Tryz.prog 5 #[.string a0, .string a1] w fun e w' => e = .returned (.bool true) ∧ Below w.heap.size w w' := by
  obtain ⟨k, h⟩ := P a0 a1 w0 w1
  refine (reredoslaw12_ScalarUnits.calls k a0 a1 true w hG h).mono ?_
  rintro e w' ⟨rfl, hd⟩
  exact ⟨rfl, hd⟩
end Go.Proofs.YtaidmohjnbibiaaGreatDoor.LScalarUnits
end
section
/- ScalarUnits: units leave a number as it is, from the left and the right; other signs have none. Conditions: none but the statement's own. -/
namespace Go.Proofs.YtaidmohjnbibiaaGreatDoor.Pure
open Go.Lib Go.RowKit Go.Proofs.YtaidmohjnbibiaaGreatDoor.LScalarUnits Go.Proofs.YtaidmohjnbibiaaGreatDoorW.PrintWords Go.Proofs.YtaidmohjnbibiaaGreatDoorW.PrintLast Go.Proofs.YtaidmohjnbibiaaGreatDoor Go.Proofs.YtaidmohjnbibiaaGreatDoor.Nm
set_option linter.unusedVariables false
set_option linter.unusedSimpArgs false
theorem unit_or (a : ByteArray) : (a = ⟨#[43]⟩ ∧ SC.scalar_Unit.f a = some (numS 0, true)) ∨ (a = ⟨#[42]⟩ ∧ SC.scalar_Unit.f a = some (numS 1, true)) ∨ (a.toList ≠ [43] ∧ a.toList ≠ [42] ∧ SC.scalar_Unit.f a = some (BA [], false)) := by
  unfold SC.scalar_Unit.f
  by_cases h1 : a.toList = [43]
  · exact .inl ⟨Hd.ba_eq h1, by rw [if_pos h1, zero_s]⟩
  · by_cases h2 : a.toList = [42]
    · exact .inr (.inl ⟨Hd.ba_eq h2, by rw [if_neg h1, if_pos h2, one_s]⟩)
    · exact .inr (.inr ⟨h1, h2, by rw [if_neg h1, if_neg h2, BA]⟩)
/-- the end, where there is a unit -/
theorem units (op : ByteArray) (u : Int) (hu : Sm u) (hr : ∀ x, Sm x → Ev (fun k => Hd.scalarDyad.f k op (numS x) (numS u)) (numS x, 0)) (hl : ∀ x, Sm x → Ev (fun k => Hd.scalarDyad.f k op (numS u) (numS x)) (numS x, 0)) (a : ByteArray) :
    Ev (fun k => (Hd.scalarDyad.f k op a (numS u)).bind fun bt104 => (Hd.scalarDyad.f k op (numS u) a).bind fun bt106 => (K.num_May.f a).bind fun t108 => (if t108 = true then (if bt104.2 = 0 then (if bt106.2 = 0 then (if bt104.1.toList = a.toList then (some (bt106.1.toList == a.toList)) else (some false)) else (some false)) else (some false)) else (if bt104.2 = 1 then (some (bt106.2 == 1)) else (some false)))) true := by
  rcases num_or a with ⟨l, rfl, hn⟩ | ⟨x, rfl, hx⟩
  · refine Ev.bind (Ev.congr (fun k => dy_no op l (itoa u) (.inl hn) k) (Ev.now _)) (Ev.bind (Ev.congr (fun k => dy_no op (itoa u) l (.inr hn) k) (Ev.now _)) ?_)
    rw [may_ev, hn]
    exact Ev.now _
  · refine Ev.bind (hr x hx) (Ev.bind (hl x hx) ?_)
    rw [mayS hx]
    simp only [Option.bind_some, if_true]
    rw [beq_self_eq_true]
    exact Ev.now _
theorem ScalarUnits : reredoslaw12_ScalarUnits.Pure := by
  intro a b _ _
  have h : Ev (fun k => reredoslaw12_ScalarUnits.f k a b) true := by
    unfold reredoslaw12_ScalarUnits.f
    refine Ev.bind shownS ?_
    by_cases hs : (b.size : Int) > 200
    · exact Ev.congr (fun k => if_pos hs) (Ev.now _)
    · refine Ev.congr (fun k => if_neg hs) ?_
      rcases unit_or a with ⟨rfl, hU⟩ | ⟨rfl, hU⟩ | ⟨h1, h2, hU⟩
      · rw [hU]
        simp only [Option.bind_some, if_true]
        exact units _ 0 (sm_one (by omega)) (fun x hx => by have := dAdd hx (sm_one (z := 0) (by omega)); rwa [Int.add_zero, show told x = (numS x, 0) from if_pos hx] at this) (fun x hx => by have := dAdd (sm_one (z := 0) (by omega)) hx; rwa [Int.zero_add, show told x = (numS x, 0) from if_pos hx] at this) b
      · rw [hU]
        simp only [Option.bind_some, if_true]
        exact units _ 1 (sm_one (by omega)) (fun x hx => by have := dMul hx (sm_one (z := 1) (by omega)); rwa [Int.mul_one, show told x = (numS x, 0) from if_pos hx] at this) (fun x hx => by have := dMul (sm_one (z := 1) (by omega)) hx; rwa [Int.one_mul, show told x = (numS x, 0) from if_pos hx] at this) b
      · rw [hU]
        simp only [Option.bind_some, if_true, Bool.false_eq_true, if_false]
        refine Ev.congr (fun k => (if_pos (ba_list [])).trans (if_neg h1)) ?_
        rw [bne_iff_ne.mpr h2]
        exact Ev.now _
  exact h.rounds
end Go.Proofs.YtaidmohjnbibiaaGreatDoor.Pure
end
