/- What the law leans on, part 33: declarations of several texts of ours, in their order. -/
import Derived.Test.YtaidmohjnbibiaaGreatDoorProg
import Derived.Below
import Derived.Deep.Draws
import Derived.Deep.AppendLies
import Derived.Maps.AppendAt
import Derived.OwnWalk
import Derived.Laws.BytesArg
import Derived.Laws.MakeOwn
import Derived.Laws.OwnMore
import Derived.Deep.OwnRows
import Derived.Tactics
import Derived.Lib.ConvBytes
import Derived.Laws.Slices
import Derived.WalkKit
import Derived.KernelRfl
import Derived.RowKit3
import Derived.Deep.LoopGhost
import Derived.Deep.QuietTactic
import Derived.BigQuiet
import Derived.WideLaws
import Derived.Deep.DeepCutAuto
import Derived.Deep.CutBlock
import Derived.Deep.RegionHeld3
import Derived.Laws.Rows
import Derived.Lib.AppendStr
import Derived.ArgAppend
import Derived.Laws.IdiomCopy
import Derived.OrdersHeld
import Derived.Laws.BitsLemmas
import Derived.RowKit
import Derived.Test.YtaidmohjnbibiaaGreatDoorXE0
import Derived.Test.YtaidmohjnbibiaaGreatDoorXE1
import Derived.Test.YtaidmohjnbibiaaGreatDoorXE31
import Derived.Test.YtaidmohjnbibiaaGreatDoorXE2
import Derived.Test.YtaidmohjnbibiaaGreatDoorXE14
import Derived.Test.YtaidmohjnbibiaaGreatDoorXE25
import Derived.Test.YtaidmohjnbibiaaGreatDoorXE29
import Derived.Test.YtaidmohjnbibiaaGreatDoorXE30
section
namespace Go.Proofs.YtaidmohjnbibiaaGreatDoor.LScalarTells
open Go.RowKit Go.Proofs.YtaidmohjnbibiaaGreatDoorW.PrintWords Go.Proofs.YtaidmohjnbibiaaGreatDoorW.PrintLast Go.Proofs.YtaidmohjnbibiaaGreatDoorW.PrintMore Go.Proofs.YtaidmohjnbibiaaGreatDoor.B Go.Proofs.YtaidmohjnbibiaaGreatDoor.K Go.Proofs.YtaidmohjnbibiaaGreatDoor.L Go.Proofs.YtaidmohjnbibiaaGreatDoor.M Go.Proofs.YtaidmohjnbibiaaGreatDoor.SC Go.Proofs.YtaidmohjnbibiaaGreatDoor.SL
attribute [local go_sem] max2_int min2_int max_two min_two max_three min_three max_four min_four
set_option linter.unusedVariables false
set_option linter.unusedSimpArgs false
/-! ### reredoslaw12_ScalarTells: function 8 -/
def reredoslaw12_ScalarTells.j0 : Nat → ByteArray → ByteArray → ByteArray → Bool → Bool → Option (Bool)
  | 0, _, _, _, _, _ => none
  | k + 1, x0, x1, x2, x7, x24 => if x24 = true then (some x7) else ((Hd.scalarDyad.f k x0 x1 x2).bind fun bt102 => ((SC.reredosref12_Dyad.f k x0 x1 x2).bind fun bt104 => ((Hd.scalarMonad.f k x0 x1).bind fun bt106 => ((SC.reredosref12_Monad.f k x0 x1).bind fun bt108 => (if x7 = true then (if bt102.1.toList = bt104.1.toList then (if bt102.2 = bt104.2 then (if bt106.1.toList = bt108.1.toList then (if bt106.2 = bt108.2 then ((SL.scalar_Whole.f x0).bind fun t110 => ((SC.reredosref12_Whole.f x0).bind fun t111 => (some (t110 == t111)))) else (some false)) else (some false)) else (some false)) else (some false)) else (some false))))))
def reredoslaw12_ScalarTells.f (k : Nat) (a0 : ByteArray) (a1 : ByteArray) (a2 : ByteArray) : Option (Bool) := (SL.reredoslaw12_shown.f k).bind fun t101 => (if (a1.size : Int) > 200 then (reredoslaw12_ScalarTells.j0 k a0 a1 a2 t101 true) else (reredoslaw12_ScalarTells.j0 k a0 a1 a2 t101 (decide ((a2.size : Int) > 200))))
set_option maxHeartbeats 8000000 in
set_option maxRecDepth 100000 in
theorem reredoslaw12_ScalarTells.calls (k : Nat) (a0 : ByteArray) (a1 : ByteArray) (a2 : ByteArray) (r : Bool) (w : World) (hG : Hd.GL w) (h : reredoslaw12_ScalarTells.f k a0 a1 a2 = some r) :
    Calls Tryz.prog 8 #[.string a0, .string a1, .string a2] w fun e w' => e = .returned (.bool r) ∧ Below w.heap.size w w' := by
  have HGL := Aside0.mk hG
  clear hG
  have HB := Aside0.mk (Below.refl w.heap.size w)
  have H : ((SL.reredoslaw12_shown.f k).bind fun t101 => (if (a1.size : Int) > 200 then (reredoslaw12_ScalarTells.j0 k a0 a1 a2 t101 true) else (reredoslaw12_ScalarTells.j0 k a0 a1 a2 t101 (decide ((a2.size : Int) > 200))))) = some r := h
  clear h
  obtain ⟨t101, A40, H⟩ := Option.bind_eq_some_iff.mp H
  try dsimp only at H
  have A4 := Aside0.mk A40
  clear A40
  have HC5 := Aside0.mk H
  clear H
  go_enter Tryz.func8, Tryz.ntmps8
  go_upto_region 2 with (first | ((with_reducible refine gate_callee (f := 9) rfl ?_); refine goesL_ (some 16) rfl rfl Tryz.func9 (by kernel_rfl) rfl #[] rfl bkA ?_; (with_reducible refine (SL.reredoslaw12_shown.calls k  t101 _ ?side1 A4.out).mono ?_); (case side1 => exact Hd.GL.below HGL.out bkB); rintro e w6 ⟨rfl, hb⟩; refine ⟨_, rfl, ?_⟩; replace HB := bkS hb; clear hb; (try clear hb2); (try clear hk); (try clear hi)))
  (try simp only [Act.put, List.setIfInBounds_toArray, List.set_cons_zero, List.set_cons_succ])
  go_cut [24] (fun v24 wc => ∃ (kq : Nat) (x24_4 : Bool), v24 = .bool x24_4 ∧ Aside0 (reredoslaw12_ScalarTells.j0 kq a0 a1 a2 t101 x24_4 = some r) ∧ Aside0 (kq ≤ k) ∧ Aside0 (Below w.heap.size w wc))
  case first =>
    have H := HC5.out
    clear HC5
    by_cases c7 : (a1.size : Int) > 200
    · rw [if_pos c7] at H
      have c7b0 : decide (200 < (a1.size : Int)) = true := decide_eq_true c7
      have c7b1 : decide (200 < a1.size) = true := decide_eq_true (by omega)
      clear c7
      (first | rw [c7b0] | (simp only [i64_w, i32_w]; rw [c7b0]) | skip)
      have H' := Aside0.mk H
      clear H
      go_wp2
      go_meet
      case rel => exact ⟨_, (true), bkF, H', ⟨by first | omega | exact Nat.le_refl _⟩, ⟨bkB⟩⟩
    · rw [if_neg c7] at H
      have c7b0 : decide (200 < (a1.size : Int)) = false := decide_eq_false c7
      have c7b1 : decide (200 < a1.size) = false := decide_eq_false (by omega)
      clear c7
      (first | rw [c7b0] | (simp only [i64_w, i32_w]; rw [c7b0]) | skip)
      have H' := Aside0.mk H
      clear H
      go_wp2
      go_meet
      case rel => exact ⟨_, (decide ((a2.size : Int) > 200)), bkF, H', ⟨by first | omega | exact Nat.le_refl _⟩, ⟨bkB⟩⟩
  case rest =>
    clear HC5
    try clear p2
    try clear c7
    try clear c7b0
    try clear c7b1
    obtain ⟨kq, x24_4, rfl, HA, HJ4, HB⟩ := hcut
    cases kq with
    | zero => exact absurd HA.out (by simp [reredoslaw12_ScalarTells.j0])
    | succ kj4 =>
      have H := HA.out
      clear HA
      simp only [reredoslaw12_ScalarTells.j0] at H
      by_cases c8 : x24_4 = true
      · subst c8
        rw [if_pos rfl] at H
        obtain rfl := Option.some.inj H
        go_wp2
        go_ret
        exact ⟨bkE, bkB⟩
      · replace c8 := Bool.eq_false_iff.mpr c8
        subst c8
        rw [if_neg Bool.false_ne_true] at H
        obtain ⟨⟨t102, t103⟩, A90, H⟩ := Option.bind_eq_some_iff.mp H
        try dsimp only at H
        have A9 := Aside0.mk A90
        clear A90
        obtain ⟨⟨t104, t105⟩, A100, H⟩ := Option.bind_eq_some_iff.mp H
        try dsimp only at H
        have A10 := Aside0.mk A100
        clear A100
        obtain ⟨⟨t106, t107⟩, A110, H⟩ := Option.bind_eq_some_iff.mp H
        try dsimp only at H
        have A11 := Aside0.mk A110
        clear A110
        obtain ⟨⟨t108, t109⟩, A120, H⟩ := Option.bind_eq_some_iff.mp H
        try dsimp only at H
        have A12 := Aside0.mk A120
        clear A120
        by_cases c13 : t101 = true
        · subst c13
          rw [if_pos rfl] at H
          by_cases c14 : t102.toList = t104.toList
          · rw [if_pos c14] at H
            have c14b0 : (t102.toList == t104.toList) = true := beq_iff_eq.mpr c14
            have c14b1 : (t102.toList != t104.toList) = false := bne_eq_false_iff_eq.mpr c14
            clear c14
            by_cases c15 : t103 = t105
            · rw [if_pos c15] at H
              have c15b0 : (t103 == t105) = true := beq_iff_eq.mpr c15
              have c15b1 : (t103 != t105) = false := bne_eq_false_iff_eq.mpr c15
              clear c15
              by_cases c16 : t106.toList = t108.toList
              · rw [if_pos c16] at H
                have c16b0 : (t106.toList == t108.toList) = true := beq_iff_eq.mpr c16
                have c16b1 : (t106.toList != t108.toList) = false := bne_eq_false_iff_eq.mpr c16
                clear c16
                by_cases c17 : t107 = t109
                · rw [if_pos c17] at H
                  have c17b0 : (t107 == t109) = true := beq_iff_eq.mpr c17
                  have c17b1 : (t107 != t109) = false := bne_eq_false_iff_eq.mpr c17
                  clear c17
                  obtain ⟨t110, A180, H⟩ := Option.bind_eq_some_iff.mp H
                  try dsimp only at H
                  have A18 := Aside0.mk A180
                  clear A180
                  obtain ⟨t111, A190, H⟩ := Option.bind_eq_some_iff.mp H
                  try dsimp only at H
                  have A19 := Aside0.mk A190
                  clear A190
                  obtain rfl := Option.some.inj H
                  go_wp2_with (first | ((with_reducible refine gate_callee (f := 11) rfl ?_); refine goesL_ (some 30) rfl rfl Tryz.func11 (by kernel_rfl) rfl #[.string a0, .string a1, .string a2] rfl bkA ?_; (with_reducible refine (Hd.scalarDyad.calls kj4 a0 a1 a2 t102 t103 _ ?side1 A9.out).mono ?_); (case side1 => exact Hd.GL.below HGL.out bkB); rintro e w20 ⟨rfl, hb⟩; refine ⟨_, rfl, ?_⟩; replace HB := bkS hb; clear hb; (try clear hb2); (try clear hk); (try clear hi)) | ((with_reducible refine gate_callee (f := 17) rfl ?_); refine goesL_ (some 37) rfl rfl Tryz.func17 (by kernel_rfl) rfl #[.string a0, .string a1, .string a2] rfl bkA ?_; (with_reducible refine (SC.reredosref12_Dyad.calls kj4 a0 a1 a2 t104 t105 _ A10.out).mono ?_); rintro e w21 ⟨rfl, hb⟩; refine ⟨_, rfl, ?_⟩; replace HB := bkS hb; clear hb; (try clear hb2); (try clear hk); (try clear hi)) | ((with_reducible refine gate_callee (f := 14) rfl ?_); refine goesL_ (some 43) rfl rfl Tryz.func14 (by kernel_rfl) rfl #[.string a0, .string a1] rfl bkA ?_; (with_reducible refine (Hd.scalarMonad.calls kj4 a0 a1 t106 t107 _ ?side1 A11.out).mono ?_); (case side1 => exact Hd.GL.below HGL.out bkB); rintro e w22 ⟨rfl, hb⟩; refine ⟨_, rfl, ?_⟩; replace HB := bkS hb; clear hb; (try clear hb2); (try clear hk); (try clear hi)) | ((with_reducible refine gate_callee (f := 18) rfl ?_); refine goesL_ (some 49) rfl rfl Tryz.func18 (by kernel_rfl) rfl #[.string a0, .string a1] rfl bkA ?_; (with_reducible refine (SC.reredosref12_Monad.calls kj4 a0 a1 t108 t109 _ A12.out).mono ?_); rintro e w23 ⟨rfl, hb⟩; refine ⟨_, rfl, ?_⟩; replace HB := bkS hb; clear hb; (try clear hb2); (try clear hk); (try clear hi)) | (go_at_call 16; (with_reducible refine (SL.scalar_Whole.calls a0 t110 _ A18.out).mono ?_); rintro e w' ⟨rfl, ⟨nd, rfl⟩⟩) | (go_at_call 19; (with_reducible refine (SC.reredosref12_Whole.calls a0 t111 _ A19.out).mono ?_); rintro e w' ⟨rfl, ⟨nd, rfl⟩⟩))
                  go_ret
                  exact ⟨bkE, bkB⟩
                · rw [if_neg c17] at H
                  have c17b0 : (t107 == t109) = false := beq_eq_false_iff_ne.mpr c17
                  have c17b1 : (t107 != t109) = true := bne_iff_ne.mpr c17
                  obtain rfl := Option.some.inj H
                  go_wp2_with (first | ((with_reducible refine gate_callee (f := 11) rfl ?_); refine goesL_ (some 30) rfl rfl Tryz.func11 (by kernel_rfl) rfl #[.string a0, .string a1, .string a2] rfl bkA ?_; (with_reducible refine (Hd.scalarDyad.calls kj4 a0 a1 a2 t102 t103 _ ?side1 A9.out).mono ?_); (case side1 => exact Hd.GL.below HGL.out bkB); rintro e w24 ⟨rfl, hb⟩; refine ⟨_, rfl, ?_⟩; replace HB := bkS hb; clear hb; (try clear hb2); (try clear hk); (try clear hi)) | ((with_reducible refine gate_callee (f := 17) rfl ?_); refine goesL_ (some 37) rfl rfl Tryz.func17 (by kernel_rfl) rfl #[.string a0, .string a1, .string a2] rfl bkA ?_; (with_reducible refine (SC.reredosref12_Dyad.calls kj4 a0 a1 a2 t104 t105 _ A10.out).mono ?_); rintro e w25 ⟨rfl, hb⟩; refine ⟨_, rfl, ?_⟩; replace HB := bkS hb; clear hb; (try clear hb2); (try clear hk); (try clear hi)) | ((with_reducible refine gate_callee (f := 14) rfl ?_); refine goesL_ (some 43) rfl rfl Tryz.func14 (by kernel_rfl) rfl #[.string a0, .string a1] rfl bkA ?_; (with_reducible refine (Hd.scalarMonad.calls kj4 a0 a1 t106 t107 _ ?side1 A11.out).mono ?_); (case side1 => exact Hd.GL.below HGL.out bkB); rintro e w26 ⟨rfl, hb⟩; refine ⟨_, rfl, ?_⟩; replace HB := bkS hb; clear hb; (try clear hb2); (try clear hk); (try clear hi)) | ((with_reducible refine gate_callee (f := 18) rfl ?_); refine goesL_ (some 49) rfl rfl Tryz.func18 (by kernel_rfl) rfl #[.string a0, .string a1] rfl bkA ?_; (with_reducible refine (SC.reredosref12_Monad.calls kj4 a0 a1 t108 t109 _ A12.out).mono ?_); rintro e w27 ⟨rfl, hb⟩; refine ⟨_, rfl, ?_⟩; replace HB := bkS hb; clear hb; (try clear hb2); (try clear hk); (try clear hi)))
                  go_ret
                  exact ⟨bkE, bkB⟩
              · rw [if_neg c16] at H
                have c16b0 : (t106.toList == t108.toList) = false := beq_eq_false_iff_ne.mpr c16
                have c16b1 : (t106.toList != t108.toList) = true := bne_iff_ne.mpr c16
                obtain rfl := Option.some.inj H
                go_wp2_with (first | ((with_reducible refine gate_callee (f := 11) rfl ?_); refine goesL_ (some 30) rfl rfl Tryz.func11 (by kernel_rfl) rfl #[.string a0, .string a1, .string a2] rfl bkA ?_; (with_reducible refine (Hd.scalarDyad.calls kj4 a0 a1 a2 t102 t103 _ ?side1 A9.out).mono ?_); (case side1 => exact Hd.GL.below HGL.out bkB); rintro e w28 ⟨rfl, hb⟩; refine ⟨_, rfl, ?_⟩; replace HB := bkS hb; clear hb; (try clear hb2); (try clear hk); (try clear hi)) | ((with_reducible refine gate_callee (f := 17) rfl ?_); refine goesL_ (some 37) rfl rfl Tryz.func17 (by kernel_rfl) rfl #[.string a0, .string a1, .string a2] rfl bkA ?_; (with_reducible refine (SC.reredosref12_Dyad.calls kj4 a0 a1 a2 t104 t105 _ A10.out).mono ?_); rintro e w29 ⟨rfl, hb⟩; refine ⟨_, rfl, ?_⟩; replace HB := bkS hb; clear hb; (try clear hb2); (try clear hk); (try clear hi)) | ((with_reducible refine gate_callee (f := 14) rfl ?_); refine goesL_ (some 43) rfl rfl Tryz.func14 (by kernel_rfl) rfl #[.string a0, .string a1] rfl bkA ?_; (with_reducible refine (Hd.scalarMonad.calls kj4 a0 a1 t106 t107 _ ?side1 A11.out).mono ?_); (case side1 => exact Hd.GL.below HGL.out bkB); rintro e w30 ⟨rfl, hb⟩; refine ⟨_, rfl, ?_⟩; replace HB := bkS hb; clear hb; (try clear hb2); (try clear hk); (try clear hi)) | ((with_reducible refine gate_callee (f := 18) rfl ?_); refine goesL_ (some 49) rfl rfl Tryz.func18 (by kernel_rfl) rfl #[.string a0, .string a1] rfl bkA ?_; (with_reducible refine (SC.reredosref12_Monad.calls kj4 a0 a1 t108 t109 _ A12.out).mono ?_); rintro e w31 ⟨rfl, hb⟩; refine ⟨_, rfl, ?_⟩; replace HB := bkS hb; clear hb; (try clear hb2); (try clear hk); (try clear hi)))
                go_ret
                exact ⟨bkE, bkB⟩
            · rw [if_neg c15] at H
              have c15b0 : (t103 == t105) = false := beq_eq_false_iff_ne.mpr c15
              have c15b1 : (t103 != t105) = true := bne_iff_ne.mpr c15
              obtain rfl := Option.some.inj H
              go_wp2_with (first | ((with_reducible refine gate_callee (f := 11) rfl ?_); refine goesL_ (some 30) rfl rfl Tryz.func11 (by kernel_rfl) rfl #[.string a0, .string a1, .string a2] rfl bkA ?_; (with_reducible refine (Hd.scalarDyad.calls kj4 a0 a1 a2 t102 t103 _ ?side1 A9.out).mono ?_); (case side1 => exact Hd.GL.below HGL.out bkB); rintro e w32 ⟨rfl, hb⟩; refine ⟨_, rfl, ?_⟩; replace HB := bkS hb; clear hb; (try clear hb2); (try clear hk); (try clear hi)) | ((with_reducible refine gate_callee (f := 17) rfl ?_); refine goesL_ (some 37) rfl rfl Tryz.func17 (by kernel_rfl) rfl #[.string a0, .string a1, .string a2] rfl bkA ?_; (with_reducible refine (SC.reredosref12_Dyad.calls kj4 a0 a1 a2 t104 t105 _ A10.out).mono ?_); rintro e w33 ⟨rfl, hb⟩; refine ⟨_, rfl, ?_⟩; replace HB := bkS hb; clear hb; (try clear hb2); (try clear hk); (try clear hi)) | ((with_reducible refine gate_callee (f := 14) rfl ?_); refine goesL_ (some 43) rfl rfl Tryz.func14 (by kernel_rfl) rfl #[.string a0, .string a1] rfl bkA ?_; (with_reducible refine (Hd.scalarMonad.calls kj4 a0 a1 t106 t107 _ ?side1 A11.out).mono ?_); (case side1 => exact Hd.GL.below HGL.out bkB); rintro e w34 ⟨rfl, hb⟩; refine ⟨_, rfl, ?_⟩; replace HB := bkS hb; clear hb; (try clear hb2); (try clear hk); (try clear hi)) | ((with_reducible refine gate_callee (f := 18) rfl ?_); refine goesL_ (some 49) rfl rfl Tryz.func18 (by kernel_rfl) rfl #[.string a0, .string a1] rfl bkA ?_; (with_reducible refine (SC.reredosref12_Monad.calls kj4 a0 a1 t108 t109 _ A12.out).mono ?_); rintro e w35 ⟨rfl, hb⟩; refine ⟨_, rfl, ?_⟩; replace HB := bkS hb; clear hb; (try clear hb2); (try clear hk); (try clear hi)))
              go_ret
              exact ⟨bkE, bkB⟩
          · rw [if_neg c14] at H
            have c14b0 : (t102.toList == t104.toList) = false := beq_eq_false_iff_ne.mpr c14
            have c14b1 : (t102.toList != t104.toList) = true := bne_iff_ne.mpr c14
            obtain rfl := Option.some.inj H
            go_wp2_with (first | ((with_reducible refine gate_callee (f := 11) rfl ?_); refine goesL_ (some 30) rfl rfl Tryz.func11 (by kernel_rfl) rfl #[.string a0, .string a1, .string a2] rfl bkA ?_; (with_reducible refine (Hd.scalarDyad.calls kj4 a0 a1 a2 t102 t103 _ ?side1 A9.out).mono ?_); (case side1 => exact Hd.GL.below HGL.out bkB); rintro e w36 ⟨rfl, hb⟩; refine ⟨_, rfl, ?_⟩; replace HB := bkS hb; clear hb; (try clear hb2); (try clear hk); (try clear hi)) | ((with_reducible refine gate_callee (f := 17) rfl ?_); refine goesL_ (some 37) rfl rfl Tryz.func17 (by kernel_rfl) rfl #[.string a0, .string a1, .string a2] rfl bkA ?_; (with_reducible refine (SC.reredosref12_Dyad.calls kj4 a0 a1 a2 t104 t105 _ A10.out).mono ?_); rintro e w37 ⟨rfl, hb⟩; refine ⟨_, rfl, ?_⟩; replace HB := bkS hb; clear hb; (try clear hb2); (try clear hk); (try clear hi)) | ((with_reducible refine gate_callee (f := 14) rfl ?_); refine goesL_ (some 43) rfl rfl Tryz.func14 (by kernel_rfl) rfl #[.string a0, .string a1] rfl bkA ?_; (with_reducible refine (Hd.scalarMonad.calls kj4 a0 a1 t106 t107 _ ?side1 A11.out).mono ?_); (case side1 => exact Hd.GL.below HGL.out bkB); rintro e w38 ⟨rfl, hb⟩; refine ⟨_, rfl, ?_⟩; replace HB := bkS hb; clear hb; (try clear hb2); (try clear hk); (try clear hi)) | ((with_reducible refine gate_callee (f := 18) rfl ?_); refine goesL_ (some 49) rfl rfl Tryz.func18 (by kernel_rfl) rfl #[.string a0, .string a1] rfl bkA ?_; (with_reducible refine (SC.reredosref12_Monad.calls kj4 a0 a1 t108 t109 _ A12.out).mono ?_); rintro e w39 ⟨rfl, hb⟩; refine ⟨_, rfl, ?_⟩; replace HB := bkS hb; clear hb; (try clear hb2); (try clear hk); (try clear hi)))
            go_ret
            exact ⟨bkE, bkB⟩
        · replace c13 := Bool.eq_false_iff.mpr c13
          subst c13
          rw [if_neg Bool.false_ne_true] at H
          obtain rfl := Option.some.inj H
          go_wp2_with (first | ((with_reducible refine gate_callee (f := 11) rfl ?_); refine goesL_ (some 30) rfl rfl Tryz.func11 (by kernel_rfl) rfl #[.string a0, .string a1, .string a2] rfl bkA ?_; (with_reducible refine (Hd.scalarDyad.calls kj4 a0 a1 a2 t102 t103 _ ?side1 A9.out).mono ?_); (case side1 => exact Hd.GL.below HGL.out bkB); rintro e w40 ⟨rfl, hb⟩; refine ⟨_, rfl, ?_⟩; replace HB := bkS hb; clear hb; (try clear hb2); (try clear hk); (try clear hi)) | ((with_reducible refine gate_callee (f := 17) rfl ?_); refine goesL_ (some 37) rfl rfl Tryz.func17 (by kernel_rfl) rfl #[.string a0, .string a1, .string a2] rfl bkA ?_; (with_reducible refine (SC.reredosref12_Dyad.calls kj4 a0 a1 a2 t104 t105 _ A10.out).mono ?_); rintro e w41 ⟨rfl, hb⟩; refine ⟨_, rfl, ?_⟩; replace HB := bkS hb; clear hb; (try clear hb2); (try clear hk); (try clear hi)) | ((with_reducible refine gate_callee (f := 14) rfl ?_); refine goesL_ (some 43) rfl rfl Tryz.func14 (by kernel_rfl) rfl #[.string a0, .string a1] rfl bkA ?_; (with_reducible refine (Hd.scalarMonad.calls kj4 a0 a1 t106 t107 _ ?side1 A11.out).mono ?_); (case side1 => exact Hd.GL.below HGL.out bkB); rintro e w42 ⟨rfl, hb⟩; refine ⟨_, rfl, ?_⟩; replace HB := bkS hb; clear hb; (try clear hb2); (try clear hk); (try clear hi)) | ((with_reducible refine gate_callee (f := 18) rfl ?_); refine goesL_ (some 49) rfl rfl Tryz.func18 (by kernel_rfl) rfl #[.string a0, .string a1] rfl bkA ?_; (with_reducible refine (SC.reredosref12_Monad.calls kj4 a0 a1 t108 t109 _ A12.out).mono ?_); rintro e w43 ⟨rfl, hb⟩; refine ⟨_, rfl, ?_⟩; replace HB := bkS hb; clear hb; (try clear hb2); (try clear hk); (try clear hi)))
          go_ret
          exact ⟨bkE, bkB⟩
/-- THE ONE PURE STATEMENT of reredoslaw12_ScalarTells: yours. -/
def reredoslaw12_ScalarTells.Pure : Prop := ∀ (a0 : ByteArray) (a1 : ByteArray) (a2 : ByteArray), a0.size ≤ 140737488351232 → a1.size ≤ 140737488351232 → a2.size ≤ 140737488351232 → ∃ k, reredoslaw12_ScalarTells.f k a0 a1 a2 = some true
theorem reredoslaw12_ScalarTells.walk (P : reredoslaw12_ScalarTells.Pure) (a0 : ByteArray) (a1 : ByteArray) (a2 : ByteArray) (w : World) (w0 : a0.size ≤ 140737488351232) (w1 : a1.size ≤ 140737488351232) (w2 : a2.size ≤ 140737488351232) (hG : Hd.GL w) :
    Calls Tryz.prog 8 #[.string a0, .string a1, .string a2] w fun e w' => e = .returned (.bool true) ∧ Below w.heap.size w w' := by
  obtain ⟨k, h⟩ := P a0 a1 a2 w0 w1 w2
  refine (reredoslaw12_ScalarTells.calls k a0 a1 a2 true w hG h).mono ?_
  rintro e w' ⟨rfl, hd⟩
  exact ⟨rfl, hd⟩
end Go.Proofs.YtaidmohjnbibiaaGreatDoor.LScalarTells
end
