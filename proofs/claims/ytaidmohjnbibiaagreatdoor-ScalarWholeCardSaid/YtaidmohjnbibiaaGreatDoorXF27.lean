/- What the law leans on, part 28: declarations of several texts of ours, in their order. -/
import Derived.Test.YtaidmohjnbibiaaGreatDoorXF26
section
namespace Go.Proofs.YtaidmohjnbibiaaGreatDoor.SL
open Go.RowKit Go.Proofs.YtaidmohjnbibiaaGreatDoorW.PrintWords Go.Proofs.YtaidmohjnbibiaaGreatDoorW.PrintLast Go.Proofs.YtaidmohjnbibiaaGreatDoorW.PrintMore Go.Proofs.YtaidmohjnbibiaaGreatDoor.B Go.Proofs.YtaidmohjnbibiaaGreatDoor.K Go.Proofs.YtaidmohjnbibiaaGreatDoor.L Go.Proofs.YtaidmohjnbibiaaGreatDoor.M Go.Proofs.YtaidmohjnbibiaaGreatDoor.SC
attribute [local go_sem] max2_int min2_int max_two min_two max_three min_three max_four min_four
set_option linter.unusedVariables false
set_option linter.unusedSimpArgs false
/-! ### reredoslaw12_shown: function 9 -/
def reredoslaw12_shown.f (k : Nat)  : Option (Bool) := (Hd.scalarDyad.f k (⟨#[37]⟩ : ByteArray) (⟨#[55]⟩ : ByteArray) (⟨#[50]⟩ : ByteArray)).bind fun bt101 => ((Hd.scalarDyad.f k (⟨#[33]⟩ : ByteArray) (⟨#[55]⟩ : ByteArray) (⟨#[50]⟩ : ByteArray)).bind fun bt103 => ((Hd.scalarDyad.f k (⟨#[33]⟩ : ByteArray) (⟨#[45, 55]⟩ : ByteArray) (⟨#[50]⟩ : ByteArray)).bind fun bt105 => (if bt101.2 = 0 then (if bt101.1.toList = ([51] : List UInt8) then (if bt103.2 = 0 then (if bt103.1.toList = ([49] : List UInt8) then (if bt105.2 = 0 then (if bt105.1.toList = ([49] : List UInt8) then ((SC.scalar_Dyads.f).bind fun t107 => (if t107.toList = ([43, 45, 42, 37, 33, 38, 124, 60, 62, 61, 126] : List UInt8) then ((SC.scalar_Monads.f).bind fun t108 => (some (t108.toList == ([45, 126, 42] : List UInt8)))) else (some false))) else (some false)) else (some false)) else (some false)) else (some false)) else (some false)) else (some false))))
set_option maxHeartbeats 8000000 in
set_option maxRecDepth 100000 in
theorem reredoslaw12_shown.calls (k : Nat)  (r : Bool) (w : World) (hG : Hd.GL w) (h : reredoslaw12_shown.f k  = some r) :
    Calls Tryz.prog 9 #[] w fun e w' => e = .returned (.bool r) ∧ Below w.heap.size w w' := by
  have HGL := Aside0.mk hG
  clear hG
  have HB := Aside0.mk (Below.refl w.heap.size w)
  have H : ((Hd.scalarDyad.f k (⟨#[37]⟩ : ByteArray) (⟨#[55]⟩ : ByteArray) (⟨#[50]⟩ : ByteArray)).bind fun bt101 => ((Hd.scalarDyad.f k (⟨#[33]⟩ : ByteArray) (⟨#[55]⟩ : ByteArray) (⟨#[50]⟩ : ByteArray)).bind fun bt103 => ((Hd.scalarDyad.f k (⟨#[33]⟩ : ByteArray) (⟨#[45, 55]⟩ : ByteArray) (⟨#[50]⟩ : ByteArray)).bind fun bt105 => (if bt101.2 = 0 then (if bt101.1.toList = ([51] : List UInt8) then (if bt103.2 = 0 then (if bt103.1.toList = ([49] : List UInt8) then (if bt105.2 = 0 then (if bt105.1.toList = ([49] : List UInt8) then ((SC.scalar_Dyads.f).bind fun t107 => (if t107.toList = ([43, 45, 42, 37, 33, 38, 124, 60, 62, 61, 126] : List UInt8) then ((SC.scalar_Monads.f).bind fun t108 => (some (t108.toList == ([45, 126, 42] : List UInt8)))) else (some false))) else (some false)) else (some false)) else (some false)) else (some false)) else (some false)) else (some false))))) = some r := h
  clear h
  refine bnd2 H ?_; clear H; intro t101 t102 A1 H; try dsimp only at H
  refine bnd2 H ?_; clear H; intro t103 t104 A2 H; try dsimp only at H
  refine bnd2 H ?_; clear H; intro t105 t106 A3 H; try dsimp only at H
  refine iteE H ?_ ?_ <;> clear H <;> intro c4 H
  · have c4b0 : (t102 == 0) = true := beq_iff_eq.mpr c4
    have c4b1 : (t102 != 0) = false := bne_eq_false_iff_eq.mpr c4
    clear c4
    refine iteE H ?_ ?_ <;> clear H <;> intro c5 H
    · have c5b0 : (t101.toList == ([51] : List UInt8)) = true := beq_iff_eq.mpr c5
      have c5b1 : (t101.toList != ([51] : List UInt8)) = false := bne_eq_false_iff_eq.mpr c5
      clear c5
      refine iteE H ?_ ?_ <;> clear H <;> intro c6 H
      · have c6b0 : (t104 == 0) = true := beq_iff_eq.mpr c6
        have c6b1 : (t104 != 0) = false := bne_eq_false_iff_eq.mpr c6
        clear c6
        refine iteE H ?_ ?_ <;> clear H <;> intro c7 H
        · have c7b0 : (t103.toList == ([49] : List UInt8)) = true := beq_iff_eq.mpr c7
          have c7b1 : (t103.toList != ([49] : List UInt8)) = false := bne_eq_false_iff_eq.mpr c7
          clear c7
          refine iteE H ?_ ?_ <;> clear H <;> intro c8 H
          · have c8b0 : (t106 == 0) = true := beq_iff_eq.mpr c8
            have c8b1 : (t106 != 0) = false := bne_eq_false_iff_eq.mpr c8
            clear c8
            refine iteE H ?_ ?_ <;> clear H <;> intro c9 H
            · have c9b0 : (t105.toList == ([49] : List UInt8)) = true := beq_iff_eq.mpr c9
              have c9b1 : (t105.toList != ([49] : List UInt8)) = false := bne_eq_false_iff_eq.mpr c9
              clear c9
              refine bnd H ?_; clear H; intro t107 A10 H
              refine iteE H ?_ ?_ <;> clear H <;> intro c11 H
              · have c11b0 : (t107.toList == ([43, 45, 42, 37, 33, 38, 124, 60, 62, 61, 126] : List UInt8)) = true := beq_iff_eq.mpr c11
                have c11b1 : (t107.toList != ([43, 45, 42, 37, 33, 38, 124, 60, 62, 61, 126] : List UInt8)) = false := bne_eq_false_iff_eq.mpr c11
                clear c11
                refine bnd H ?_; clear H; intro t108 A12 H
                obtain rfl := Option.some.inj H
                go_enter Tryz.func9, Tryz.ntmps9
                go_wp2_with (first | ((with_reducible refine gate_callee (f := 11) rfl ?_); refine goesL_ (some 8) rfl rfl Tryz.func11 (by kernel_rfl) rfl #[.string (⟨#[37]⟩ : ByteArray), .string (⟨#[55]⟩ : ByteArray), .string (⟨#[50]⟩ : ByteArray)] rfl bkA ?_; (with_reducible refine (Hd.scalarDyad.calls k (⟨#[37]⟩ : ByteArray) (⟨#[55]⟩ : ByteArray) (⟨#[50]⟩ : ByteArray) t101 t102 _ ?side1 A1.out).mono ?_); (case side1 => exact Hd.GL.below HGL.out bkB); rintro e w13 ⟨rfl, hb⟩; refine ⟨_, rfl, ?_⟩; replace HB := bkS hb; clear hb; (try clear hb2); (try clear hk); (try clear hi)) | ((with_reducible refine gate_callee (f := 11) rfl ?_); refine goesL_ (some 12) rfl rfl Tryz.func11 (by kernel_rfl) rfl #[.string (⟨#[33]⟩ : ByteArray), .string (⟨#[55]⟩ : ByteArray), .string (⟨#[50]⟩ : ByteArray)] rfl bkA ?_; (with_reducible refine (Hd.scalarDyad.calls k (⟨#[33]⟩ : ByteArray) (⟨#[55]⟩ : ByteArray) (⟨#[50]⟩ : ByteArray) t103 t104 _ ?side1 A2.out).mono ?_); (case side1 => exact Hd.GL.below HGL.out bkB); rintro e w14 ⟨rfl, hb⟩; refine ⟨_, rfl, ?_⟩; replace HB := bkS hb; clear hb; (try clear hb2); (try clear hk); (try clear hi)) | ((with_reducible refine gate_callee (f := 11) rfl ?_); refine goesL_ (some 16) rfl rfl Tryz.func11 (by kernel_rfl) rfl #[.string (⟨#[33]⟩ : ByteArray), .string (⟨#[45, 55]⟩ : ByteArray), .string (⟨#[50]⟩ : ByteArray)] rfl bkA ?_; (with_reducible refine (Hd.scalarDyad.calls k (⟨#[33]⟩ : ByteArray) (⟨#[45, 55]⟩ : ByteArray) (⟨#[50]⟩ : ByteArray) t105 t106 _ ?side1 A3.out).mono ?_); (case side1 => exact Hd.GL.below HGL.out bkB); rintro e w15 ⟨rfl, hb⟩; refine ⟨_, rfl, ?_⟩; replace HB := bkS hb; clear hb; (try clear hb2); (try clear hk); (try clear hi)) | (go_at_call 15; (with_reducible refine (SC.scalar_Dyads.calls  t107 _ A10.out).mono ?_); rintro e w' ⟨rfl, ⟨nd, rfl⟩⟩) | (go_at_call 20; (with_reducible refine (SC.scalar_Monads.calls  t108 _ A12.out).mono ?_); rintro e w' ⟨rfl, ⟨nd, rfl⟩⟩))
                go_ret
                exact ⟨bkE, bkB⟩
              · have c11b0 : (t107.toList == ([43, 45, 42, 37, 33, 38, 124, 60, 62, 61, 126] : List UInt8)) = false := beq_eq_false_iff_ne.mpr c11
                have c11b1 : (t107.toList != ([43, 45, 42, 37, 33, 38, 124, 60, 62, 61, 126] : List UInt8)) = true := bne_iff_ne.mpr c11
                obtain rfl := Option.some.inj H
                go_enter Tryz.func9, Tryz.ntmps9
                go_wp2_with (first | ((with_reducible refine gate_callee (f := 11) rfl ?_); refine goesL_ (some 8) rfl rfl Tryz.func11 (by kernel_rfl) rfl #[.string (⟨#[37]⟩ : ByteArray), .string (⟨#[55]⟩ : ByteArray), .string (⟨#[50]⟩ : ByteArray)] rfl bkA ?_; (with_reducible refine (Hd.scalarDyad.calls k (⟨#[37]⟩ : ByteArray) (⟨#[55]⟩ : ByteArray) (⟨#[50]⟩ : ByteArray) t101 t102 _ ?side1 A1.out).mono ?_); (case side1 => exact Hd.GL.below HGL.out bkB); rintro e w16 ⟨rfl, hb⟩; refine ⟨_, rfl, ?_⟩; replace HB := bkS hb; clear hb; (try clear hb2); (try clear hk); (try clear hi)) | ((with_reducible refine gate_callee (f := 11) rfl ?_); refine goesL_ (some 12) rfl rfl Tryz.func11 (by kernel_rfl) rfl #[.string (⟨#[33]⟩ : ByteArray), .string (⟨#[55]⟩ : ByteArray), .string (⟨#[50]⟩ : ByteArray)] rfl bkA ?_; (with_reducible refine (Hd.scalarDyad.calls k (⟨#[33]⟩ : ByteArray) (⟨#[55]⟩ : ByteArray) (⟨#[50]⟩ : ByteArray) t103 t104 _ ?side1 A2.out).mono ?_); (case side1 => exact Hd.GL.below HGL.out bkB); rintro e w17 ⟨rfl, hb⟩; refine ⟨_, rfl, ?_⟩; replace HB := bkS hb; clear hb; (try clear hb2); (try clear hk); (try clear hi)) | ((with_reducible refine gate_callee (f := 11) rfl ?_); refine goesL_ (some 16) rfl rfl Tryz.func11 (by kernel_rfl) rfl #[.string (⟨#[33]⟩ : ByteArray), .string (⟨#[45, 55]⟩ : ByteArray), .string (⟨#[50]⟩ : ByteArray)] rfl bkA ?_; (with_reducible refine (Hd.scalarDyad.calls k (⟨#[33]⟩ : ByteArray) (⟨#[45, 55]⟩ : ByteArray) (⟨#[50]⟩ : ByteArray) t105 t106 _ ?side1 A3.out).mono ?_); (case side1 => exact Hd.GL.below HGL.out bkB); rintro e w18 ⟨rfl, hb⟩; refine ⟨_, rfl, ?_⟩; replace HB := bkS hb; clear hb; (try clear hb2); (try clear hk); (try clear hi)) | (go_at_call 15; (with_reducible refine (SC.scalar_Dyads.calls  t107 _ A10.out).mono ?_); rintro e w' ⟨rfl, ⟨nd, rfl⟩⟩))
                go_ret
                exact ⟨bkE, bkB⟩
            · have c9b0 : (t105.toList == ([49] : List UInt8)) = false := beq_eq_false_iff_ne.mpr c9
              have c9b1 : (t105.toList != ([49] : List UInt8)) = true := bne_iff_ne.mpr c9
              obtain rfl := Option.some.inj H
              go_enter Tryz.func9, Tryz.ntmps9
              go_wp2_with (first | ((with_reducible refine gate_callee (f := 11) rfl ?_); refine goesL_ (some 8) rfl rfl Tryz.func11 (by kernel_rfl) rfl #[.string (⟨#[37]⟩ : ByteArray), .string (⟨#[55]⟩ : ByteArray), .string (⟨#[50]⟩ : ByteArray)] rfl bkA ?_; (with_reducible refine (Hd.scalarDyad.calls k (⟨#[37]⟩ : ByteArray) (⟨#[55]⟩ : ByteArray) (⟨#[50]⟩ : ByteArray) t101 t102 _ ?side1 A1.out).mono ?_); (case side1 => exact Hd.GL.below HGL.out bkB); rintro e w19 ⟨rfl, hb⟩; refine ⟨_, rfl, ?_⟩; replace HB := bkS hb; clear hb; (try clear hb2); (try clear hk); (try clear hi)) | ((with_reducible refine gate_callee (f := 11) rfl ?_); refine goesL_ (some 12) rfl rfl Tryz.func11 (by kernel_rfl) rfl #[.string (⟨#[33]⟩ : ByteArray), .string (⟨#[55]⟩ : ByteArray), .string (⟨#[50]⟩ : ByteArray)] rfl bkA ?_; (with_reducible refine (Hd.scalarDyad.calls k (⟨#[33]⟩ : ByteArray) (⟨#[55]⟩ : ByteArray) (⟨#[50]⟩ : ByteArray) t103 t104 _ ?side1 A2.out).mono ?_); (case side1 => exact Hd.GL.below HGL.out bkB); rintro e w20 ⟨rfl, hb⟩; refine ⟨_, rfl, ?_⟩; replace HB := bkS hb; clear hb; (try clear hb2); (try clear hk); (try clear hi)) | ((with_reducible refine gate_callee (f := 11) rfl ?_); refine goesL_ (some 16) rfl rfl Tryz.func11 (by kernel_rfl) rfl #[.string (⟨#[33]⟩ : ByteArray), .string (⟨#[45, 55]⟩ : ByteArray), .string (⟨#[50]⟩ : ByteArray)] rfl bkA ?_; (with_reducible refine (Hd.scalarDyad.calls k (⟨#[33]⟩ : ByteArray) (⟨#[45, 55]⟩ : ByteArray) (⟨#[50]⟩ : ByteArray) t105 t106 _ ?side1 A3.out).mono ?_); (case side1 => exact Hd.GL.below HGL.out bkB); rintro e w21 ⟨rfl, hb⟩; refine ⟨_, rfl, ?_⟩; replace HB := bkS hb; clear hb; (try clear hb2); (try clear hk); (try clear hi)))
              go_ret
              exact ⟨bkE, bkB⟩
          · have c8b0 : (t106 == 0) = false := beq_eq_false_iff_ne.mpr c8
            have c8b1 : (t106 != 0) = true := bne_iff_ne.mpr c8
            obtain rfl := Option.some.inj H
            go_enter Tryz.func9, Tryz.ntmps9
            go_wp2_with (first | ((with_reducible refine gate_callee (f := 11) rfl ?_); refine goesL_ (some 8) rfl rfl Tryz.func11 (by kernel_rfl) rfl #[.string (⟨#[37]⟩ : ByteArray), .string (⟨#[55]⟩ : ByteArray), .string (⟨#[50]⟩ : ByteArray)] rfl bkA ?_; (with_reducible refine (Hd.scalarDyad.calls k (⟨#[37]⟩ : ByteArray) (⟨#[55]⟩ : ByteArray) (⟨#[50]⟩ : ByteArray) t101 t102 _ ?side1 A1.out).mono ?_); (case side1 => exact Hd.GL.below HGL.out bkB); rintro e w22 ⟨rfl, hb⟩; refine ⟨_, rfl, ?_⟩; replace HB := bkS hb; clear hb; (try clear hb2); (try clear hk); (try clear hi)) | ((with_reducible refine gate_callee (f := 11) rfl ?_); refine goesL_ (some 12) rfl rfl Tryz.func11 (by kernel_rfl) rfl #[.string (⟨#[33]⟩ : ByteArray), .string (⟨#[55]⟩ : ByteArray), .string (⟨#[50]⟩ : ByteArray)] rfl bkA ?_; (with_reducible refine (Hd.scalarDyad.calls k (⟨#[33]⟩ : ByteArray) (⟨#[55]⟩ : ByteArray) (⟨#[50]⟩ : ByteArray) t103 t104 _ ?side1 A2.out).mono ?_); (case side1 => exact Hd.GL.below HGL.out bkB); rintro e w23 ⟨rfl, hb⟩; refine ⟨_, rfl, ?_⟩; replace HB := bkS hb; clear hb; (try clear hb2); (try clear hk); (try clear hi)) | ((with_reducible refine gate_callee (f := 11) rfl ?_); refine goesL_ (some 16) rfl rfl Tryz.func11 (by kernel_rfl) rfl #[.string (⟨#[33]⟩ : ByteArray), .string (⟨#[45, 55]⟩ : ByteArray), .string (⟨#[50]⟩ : ByteArray)] rfl bkA ?_; (with_reducible refine (Hd.scalarDyad.calls k (⟨#[33]⟩ : ByteArray) (⟨#[45, 55]⟩ : ByteArray) (⟨#[50]⟩ : ByteArray) t105 t106 _ ?side1 A3.out).mono ?_); (case side1 => exact Hd.GL.below HGL.out bkB); rintro e w24 ⟨rfl, hb⟩; refine ⟨_, rfl, ?_⟩; replace HB := bkS hb; clear hb; (try clear hb2); (try clear hk); (try clear hi)))
            go_ret
            exact ⟨bkE, bkB⟩
        · have c7b0 : (t103.toList == ([49] : List UInt8)) = false := beq_eq_false_iff_ne.mpr c7
          have c7b1 : (t103.toList != ([49] : List UInt8)) = true := bne_iff_ne.mpr c7
          obtain rfl := Option.some.inj H
          go_enter Tryz.func9, Tryz.ntmps9
          go_wp2_with (first | ((with_reducible refine gate_callee (f := 11) rfl ?_); refine goesL_ (some 8) rfl rfl Tryz.func11 (by kernel_rfl) rfl #[.string (⟨#[37]⟩ : ByteArray), .string (⟨#[55]⟩ : ByteArray), .string (⟨#[50]⟩ : ByteArray)] rfl bkA ?_; (with_reducible refine (Hd.scalarDyad.calls k (⟨#[37]⟩ : ByteArray) (⟨#[55]⟩ : ByteArray) (⟨#[50]⟩ : ByteArray) t101 t102 _ ?side1 A1.out).mono ?_); (case side1 => exact Hd.GL.below HGL.out bkB); rintro e w25 ⟨rfl, hb⟩; refine ⟨_, rfl, ?_⟩; replace HB := bkS hb; clear hb; (try clear hb2); (try clear hk); (try clear hi)) | ((with_reducible refine gate_callee (f := 11) rfl ?_); refine goesL_ (some 12) rfl rfl Tryz.func11 (by kernel_rfl) rfl #[.string (⟨#[33]⟩ : ByteArray), .string (⟨#[55]⟩ : ByteArray), .string (⟨#[50]⟩ : ByteArray)] rfl bkA ?_; (with_reducible refine (Hd.scalarDyad.calls k (⟨#[33]⟩ : ByteArray) (⟨#[55]⟩ : ByteArray) (⟨#[50]⟩ : ByteArray) t103 t104 _ ?side1 A2.out).mono ?_); (case side1 => exact Hd.GL.below HGL.out bkB); rintro e w26 ⟨rfl, hb⟩; refine ⟨_, rfl, ?_⟩; replace HB := bkS hb; clear hb; (try clear hb2); (try clear hk); (try clear hi)) | ((with_reducible refine gate_callee (f := 11) rfl ?_); refine goesL_ (some 16) rfl rfl Tryz.func11 (by kernel_rfl) rfl #[.string (⟨#[33]⟩ : ByteArray), .string (⟨#[45, 55]⟩ : ByteArray), .string (⟨#[50]⟩ : ByteArray)] rfl bkA ?_; (with_reducible refine (Hd.scalarDyad.calls k (⟨#[33]⟩ : ByteArray) (⟨#[45, 55]⟩ : ByteArray) (⟨#[50]⟩ : ByteArray) t105 t106 _ ?side1 A3.out).mono ?_); (case side1 => exact Hd.GL.below HGL.out bkB); rintro e w27 ⟨rfl, hb⟩; refine ⟨_, rfl, ?_⟩; replace HB := bkS hb; clear hb; (try clear hb2); (try clear hk); (try clear hi)))
          go_ret
          exact ⟨bkE, bkB⟩
      · have c6b0 : (t104 == 0) = false := beq_eq_false_iff_ne.mpr c6
        have c6b1 : (t104 != 0) = true := bne_iff_ne.mpr c6
        obtain rfl := Option.some.inj H
        go_enter Tryz.func9, Tryz.ntmps9
        go_wp2_with (first | ((with_reducible refine gate_callee (f := 11) rfl ?_); refine goesL_ (some 8) rfl rfl Tryz.func11 (by kernel_rfl) rfl #[.string (⟨#[37]⟩ : ByteArray), .string (⟨#[55]⟩ : ByteArray), .string (⟨#[50]⟩ : ByteArray)] rfl bkA ?_; (with_reducible refine (Hd.scalarDyad.calls k (⟨#[37]⟩ : ByteArray) (⟨#[55]⟩ : ByteArray) (⟨#[50]⟩ : ByteArray) t101 t102 _ ?side1 A1.out).mono ?_); (case side1 => exact Hd.GL.below HGL.out bkB); rintro e w28 ⟨rfl, hb⟩; refine ⟨_, rfl, ?_⟩; replace HB := bkS hb; clear hb; (try clear hb2); (try clear hk); (try clear hi)) | ((with_reducible refine gate_callee (f := 11) rfl ?_); refine goesL_ (some 12) rfl rfl Tryz.func11 (by kernel_rfl) rfl #[.string (⟨#[33]⟩ : ByteArray), .string (⟨#[55]⟩ : ByteArray), .string (⟨#[50]⟩ : ByteArray)] rfl bkA ?_; (with_reducible refine (Hd.scalarDyad.calls k (⟨#[33]⟩ : ByteArray) (⟨#[55]⟩ : ByteArray) (⟨#[50]⟩ : ByteArray) t103 t104 _ ?side1 A2.out).mono ?_); (case side1 => exact Hd.GL.below HGL.out bkB); rintro e w29 ⟨rfl, hb⟩; refine ⟨_, rfl, ?_⟩; replace HB := bkS hb; clear hb; (try clear hb2); (try clear hk); (try clear hi)) | ((with_reducible refine gate_callee (f := 11) rfl ?_); refine goesL_ (some 16) rfl rfl Tryz.func11 (by kernel_rfl) rfl #[.string (⟨#[33]⟩ : ByteArray), .string (⟨#[45, 55]⟩ : ByteArray), .string (⟨#[50]⟩ : ByteArray)] rfl bkA ?_; (with_reducible refine (Hd.scalarDyad.calls k (⟨#[33]⟩ : ByteArray) (⟨#[45, 55]⟩ : ByteArray) (⟨#[50]⟩ : ByteArray) t105 t106 _ ?side1 A3.out).mono ?_); (case side1 => exact Hd.GL.below HGL.out bkB); rintro e w30 ⟨rfl, hb⟩; refine ⟨_, rfl, ?_⟩; replace HB := bkS hb; clear hb; (try clear hb2); (try clear hk); (try clear hi)))
        go_ret
        exact ⟨bkE, bkB⟩
    · have c5b0 : (t101.toList == ([51] : List UInt8)) = false := beq_eq_false_iff_ne.mpr c5
      have c5b1 : (t101.toList != ([51] : List UInt8)) = true := bne_iff_ne.mpr c5
      obtain rfl := Option.some.inj H
      go_enter Tryz.func9, Tryz.ntmps9
      go_wp2_with (first | ((with_reducible refine gate_callee (f := 11) rfl ?_); refine goesL_ (some 8) rfl rfl Tryz.func11 (by kernel_rfl) rfl #[.string (⟨#[37]⟩ : ByteArray), .string (⟨#[55]⟩ : ByteArray), .string (⟨#[50]⟩ : ByteArray)] rfl bkA ?_; (with_reducible refine (Hd.scalarDyad.calls k (⟨#[37]⟩ : ByteArray) (⟨#[55]⟩ : ByteArray) (⟨#[50]⟩ : ByteArray) t101 t102 _ ?side1 A1.out).mono ?_); (case side1 => exact Hd.GL.below HGL.out bkB); rintro e w31 ⟨rfl, hb⟩; refine ⟨_, rfl, ?_⟩; replace HB := bkS hb; clear hb; (try clear hb2); (try clear hk); (try clear hi)) | ((with_reducible refine gate_callee (f := 11) rfl ?_); refine goesL_ (some 12) rfl rfl Tryz.func11 (by kernel_rfl) rfl #[.string (⟨#[33]⟩ : ByteArray), .string (⟨#[55]⟩ : ByteArray), .string (⟨#[50]⟩ : ByteArray)] rfl bkA ?_; (with_reducible refine (Hd.scalarDyad.calls k (⟨#[33]⟩ : ByteArray) (⟨#[55]⟩ : ByteArray) (⟨#[50]⟩ : ByteArray) t103 t104 _ ?side1 A2.out).mono ?_); (case side1 => exact Hd.GL.below HGL.out bkB); rintro e w32 ⟨rfl, hb⟩; refine ⟨_, rfl, ?_⟩; replace HB := bkS hb; clear hb; (try clear hb2); (try clear hk); (try clear hi)) | ((with_reducible refine gate_callee (f := 11) rfl ?_); refine goesL_ (some 16) rfl rfl Tryz.func11 (by kernel_rfl) rfl #[.string (⟨#[33]⟩ : ByteArray), .string (⟨#[45, 55]⟩ : ByteArray), .string (⟨#[50]⟩ : ByteArray)] rfl bkA ?_; (with_reducible refine (Hd.scalarDyad.calls k (⟨#[33]⟩ : ByteArray) (⟨#[45, 55]⟩ : ByteArray) (⟨#[50]⟩ : ByteArray) t105 t106 _ ?side1 A3.out).mono ?_); (case side1 => exact Hd.GL.below HGL.out bkB); rintro e w33 ⟨rfl, hb⟩; refine ⟨_, rfl, ?_⟩; replace HB := bkS hb; clear hb; (try clear hb2); (try clear hk); (try clear hi)))
      go_ret
      exact ⟨bkE, bkB⟩
  · have c4b0 : (t102 == 0) = false := beq_eq_false_iff_ne.mpr c4
    have c4b1 : (t102 != 0) = true := bne_iff_ne.mpr c4
    obtain rfl := Option.some.inj H
    go_enter Tryz.func9, Tryz.ntmps9
    go_wp2_with (first | ((with_reducible refine gate_callee (f := 11) rfl ?_); refine goesL_ (some 8) rfl rfl Tryz.func11 (by kernel_rfl) rfl #[.string (⟨#[37]⟩ : ByteArray), .string (⟨#[55]⟩ : ByteArray), .string (⟨#[50]⟩ : ByteArray)] rfl bkA ?_; (with_reducible refine (Hd.scalarDyad.calls k (⟨#[37]⟩ : ByteArray) (⟨#[55]⟩ : ByteArray) (⟨#[50]⟩ : ByteArray) t101 t102 _ ?side1 A1.out).mono ?_); (case side1 => exact Hd.GL.below HGL.out bkB); rintro e w34 ⟨rfl, hb⟩; refine ⟨_, rfl, ?_⟩; replace HB := bkS hb; clear hb; (try clear hb2); (try clear hk); (try clear hi)) | ((with_reducible refine gate_callee (f := 11) rfl ?_); refine goesL_ (some 12) rfl rfl Tryz.func11 (by kernel_rfl) rfl #[.string (⟨#[33]⟩ : ByteArray), .string (⟨#[55]⟩ : ByteArray), .string (⟨#[50]⟩ : ByteArray)] rfl bkA ?_; (with_reducible refine (Hd.scalarDyad.calls k (⟨#[33]⟩ : ByteArray) (⟨#[55]⟩ : ByteArray) (⟨#[50]⟩ : ByteArray) t103 t104 _ ?side1 A2.out).mono ?_); (case side1 => exact Hd.GL.below HGL.out bkB); rintro e w35 ⟨rfl, hb⟩; refine ⟨_, rfl, ?_⟩; replace HB := bkS hb; clear hb; (try clear hb2); (try clear hk); (try clear hi)) | ((with_reducible refine gate_callee (f := 11) rfl ?_); refine goesL_ (some 16) rfl rfl Tryz.func11 (by kernel_rfl) rfl #[.string (⟨#[33]⟩ : ByteArray), .string (⟨#[45, 55]⟩ : ByteArray), .string (⟨#[50]⟩ : ByteArray)] rfl bkA ?_; (with_reducible refine (Hd.scalarDyad.calls k (⟨#[33]⟩ : ByteArray) (⟨#[45, 55]⟩ : ByteArray) (⟨#[50]⟩ : ByteArray) t105 t106 _ ?side1 A3.out).mono ?_); (case side1 => exact Hd.GL.below HGL.out bkB); rintro e w36 ⟨rfl, hb⟩; refine ⟨_, rfl, ?_⟩; replace HB := bkS hb; clear hb; (try clear hb2); (try clear hk); (try clear hi)))
    go_ret
    exact ⟨bkE, bkB⟩
/-! ### scalar_Whole: function 16 -/
def scalar_Whole.f (a0 : ByteArray) : Option (Bool) := if (a0.size : Int) = 1 then ((Hd.contains.f (⟨#[43, 45, 42, 37, 33, 38, 124, 60, 62, 61, 126]⟩ : ByteArray) a0).bind fun t109 => (if t109 = true then (if a0.toList = ([37] : List UInt8) then (some false) else (some (a0.toList != ([33] : List UInt8)))) else (some false))) else (some false)
set_option maxHeartbeats 8000000 in
set_option maxRecDepth 100000 in
theorem scalar_Whole.calls (a0 : ByteArray) (r : Bool) (w : World) (h : scalar_Whole.f a0 = some r) :
    Calls Tryz.prog 16 #[.string a0] w fun e w' => e = .returned (.bool r) ∧ Drawn0 w w' := by
  have H : (if (a0.size : Int) = 1 then ((Hd.contains.f (⟨#[43, 45, 42, 37, 33, 38, 124, 60, 62, 61, 126]⟩ : ByteArray) a0).bind fun t109 => (if t109 = true then (if a0.toList = ([37] : List UInt8) then (some false) else (some (a0.toList != ([33] : List UInt8)))) else (some false))) else (some false)) = some r := h
  clear h
  refine iteE H ?_ ?_ <;> clear H <;> intro c2 H
  · have c2b0 : ((a0.size : Int) == 1) = true := beq_iff_eq.mpr c2
    have c2b1 : ((a0.size : Int) != 1) = false := bne_eq_false_iff_eq.mpr c2
    clear c2
    refine bnd H ?_; clear H; intro t109 A3 H
    refine iteB H ?_ ?_ <;> clear H <;> rintro rfl H
    · by_cases c5 : a0.toList = ([37] : List UInt8)
      · rw [if_pos c5] at H
        have c5b0 : (a0.toList == ([37] : List UInt8)) = true := beq_iff_eq.mpr c5
        have c5b1 : (a0.toList != ([37] : List UInt8)) = false := bne_eq_false_iff_eq.mpr c5
        clear c5
        obtain rfl := Option.some.inj H
        go_enter Tryz.func16, Tryz.ntmps16
        go_wp2_with (first | (go_at_call 45; (with_reducible refine (Hd.contains.calls (⟨#[43, 45, 42, 37, 33, 38, 124, 60, 62, 61, 126]⟩ : ByteArray) a0 true _ A3.out).mono ?_); rintro e w' ⟨rfl, ⟨nd, rfl⟩⟩))
        go_ret
        exact ⟨bkF, bkD⟩
      · rw [if_neg c5] at H
        have c5b0 : (a0.toList == ([37] : List UInt8)) = false := beq_eq_false_iff_ne.mpr c5
        have c5b1 : (a0.toList != ([37] : List UInt8)) = true := bne_iff_ne.mpr c5
        obtain rfl := Option.some.inj H
        go_enter Tryz.func16, Tryz.ntmps16
        go_wp2_with (first | (go_at_call 45; (with_reducible refine (Hd.contains.calls (⟨#[43, 45, 42, 37, 33, 38, 124, 60, 62, 61, 126]⟩ : ByteArray) a0 true _ A3.out).mono ?_); rintro e w' ⟨rfl, ⟨nd, rfl⟩⟩))
        go_ret
        exact ⟨bkF, bkD⟩
    · obtain rfl := Option.some.inj H
      go_enter Tryz.func16, Tryz.ntmps16
      go_wp2_with (first | (go_at_call 45; (with_reducible refine (Hd.contains.calls (⟨#[43, 45, 42, 37, 33, 38, 124, 60, 62, 61, 126]⟩ : ByteArray) a0 false _ A3.out).mono ?_); rintro e w' ⟨rfl, ⟨nd, rfl⟩⟩))
      go_ret
      exact ⟨bkF, bkD⟩
  · have c2b0 : ((a0.size : Int) == 1) = false := beq_eq_false_iff_ne.mpr c2
    have c2b1 : ((a0.size : Int) != 1) = true := bne_iff_ne.mpr c2
    obtain rfl := Option.some.inj H
    go_enter Tryz.func16, Tryz.ntmps16
    go_wp2
    go_ret
    exact ⟨bkF, bkD⟩
end Go.Proofs.YtaidmohjnbibiaaGreatDoor.SL
end
