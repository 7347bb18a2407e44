/- What the law leans on, part 29: declarations of several texts of ours, in their order. -/
import Derived.Test.YtaidmohjnbibiaaGreatDoorProg
import Derived.Below
import Derived.Deep.Draws
import Derived.Deep.AppendLies
import Derived.Maps.AppendAt
import Derived.OwnWalk
import Derived.Laws.BytesArg
import Derived.Laws.MakeOwn
import Derived.Laws.OwnMore
import Derived.Deep.OwnRows
import Derived.Tactics
import Derived.Lib.ConvBytes
import Derived.Laws.Slices
import Derived.WalkKit
import Derived.KernelRfl
import Derived.RowKit3
import Derived.Deep.LoopGhost
import Derived.Deep.QuietTactic
import Derived.BigQuiet
import Derived.WideLaws
import Derived.Deep.DeepCutAuto
import Derived.Deep.CutBlock
import Derived.Deep.RegionHeld3
import Derived.Laws.Rows
import Derived.Lib.AppendStr
import Derived.ArgAppend
import Derived.Laws.IdiomCopy
import Derived.OrdersHeld
import Derived.Laws.BitsLemmas
import Derived.RowKit
import Derived.Test.YtaidmohjnbibiaaGreatDoorXF0
import Derived.Test.YtaidmohjnbibiaaGreatDoorXF1
import Derived.Test.YtaidmohjnbibiaaGreatDoorXF25
import Derived.Test.YtaidmohjnbibiaaGreatDoorXF26
import Derived.Test.YtaidmohjnbibiaaGreatDoorXF2
import Derived.Test.YtaidmohjnbibiaaGreatDoorXF9
import Derived.Test.YtaidmohjnbibiaaGreatDoorXF21
import Derived.Test.YtaidmohjnbibiaaGreatDoorXF24
import Derived.Test.YtaidmohjnbibiaaGreatDoorXF27
section
namespace Go.Proofs.YtaidmohjnbibiaaGreatDoor.LScalarWhole
open Go.RowKit Go.Proofs.YtaidmohjnbibiaaGreatDoorW.PrintWords Go.Proofs.YtaidmohjnbibiaaGreatDoorW.PrintLast Go.Proofs.YtaidmohjnbibiaaGreatDoorW.PrintMore Go.Proofs.YtaidmohjnbibiaaGreatDoor.B Go.Proofs.YtaidmohjnbibiaaGreatDoor.K Go.Proofs.YtaidmohjnbibiaaGreatDoor.L Go.Proofs.YtaidmohjnbibiaaGreatDoor.M Go.Proofs.YtaidmohjnbibiaaGreatDoor.SC Go.Proofs.YtaidmohjnbibiaaGreatDoor.SL
attribute [local go_sem] max2_int min2_int max_two min_two max_three min_three max_four min_four
set_option linter.unusedVariables false
set_option linter.unusedSimpArgs false
/-! ### reredoslaw12_ScalarWhole: function 7 -/
def reredoslaw12_ScalarWhole.j0 : Nat → Int → ByteArray → ByteArray → Bool → Bool → Option (Bool)
  | 0, _, _, _, _, _ => none
  | k + 1, x0, x1, x2, x7, x34 => if x34 = true then (some x7) else ((SC.scalar_Dyads.f).bind fun t104 => (if (t104.size : Int) = 0 then (some false) else (if 0 ≤ (Int.tmod (wrap64 (x0)) (t104.size : Int)) then (if (Int.tmod (wrap64 (x0)) (t104.size : Int)) ≤ (wrap64 ((Int.tmod (wrap64 (x0)) (t104.size : Int)) + 1)) then (if (wrap64 ((Int.tmod (wrap64 (x0)) (t104.size : Int)) + 1)) ≤ (t104.size : Int) then ((Hd.scalarDyad.f k (t104.extract ((Int.tmod (wrap64 (x0)) (t104.size : Int)) : Int).toNat ((wrap64 ((Int.tmod (wrap64 (x0)) (t104.size : Int)) + 1)) : Int).toNat) x1 x2).bind fun bt105 => ((Hd.scalarDyad.f k (t104.extract ((Int.tmod (wrap64 (x0)) (t104.size : Int)) : Int).toNat ((wrap64 ((Int.tmod (wrap64 (x0)) (t104.size : Int)) + 1)) : Int).toNat) x1 (⟨#[48]⟩ : ByteArray)).bind fun bt107 => ((SL.scalar_Whole.f (t104.extract ((Int.tmod (wrap64 (x0)) (t104.size : Int)) : Int).toNat ((wrap64 ((Int.tmod (wrap64 (x0)) (t104.size : Int)) + 1)) : Int).toNat)).bind fun t109 => (if x7 = true then (if bt105.2 = 0 then ((Go.Proofs.YtaidmohjnbibiaaGreatDoor.K.num_May.f bt105.1).bind fun t110 => (if t110 = true then (if t109 = true then (if bt105.2 = 5 then (some false) else (some (bt107.2 != 5))) else (if bt107.2 = 5 then (some true) else (some false))) else (if bt105.2 = 8 then (if bt105.1.toList = ([] : List UInt8) then (if t109 = true then (if bt105.2 = 5 then (some false) else (some (bt107.2 != 5))) else (if bt107.2 = 5 then (some true) else (some false))) else (if t109 = true then (some false) else (if x2.toList = ([48] : List UInt8) then (if bt105.2 = 5 then (if bt107.2 = 5 then (some true) else (some false)) else (some false)) else (some false)))) else (if t109 = true then (some false) else (if x2.toList = ([48] : List UInt8) then (if bt105.2 = 5 then (if bt107.2 = 5 then (some true) else (some false)) else (some false)) else (some false)))))) else (if bt105.2 = 8 then (if bt105.1.toList = ([] : List UInt8) then (if t109 = true then (if bt105.2 = 5 then (some false) else (some (bt107.2 != 5))) else (if bt107.2 = 5 then (some true) else (some false))) else (if t109 = true then (some false) else (if x2.toList = ([48] : List UInt8) then (if bt105.2 = 5 then (if bt107.2 = 5 then (some true) else (some false)) else (some false)) else (some false)))) else (if t109 = true then (some false) else (if x2.toList = ([48] : List UInt8) then (if bt105.2 = 5 then (if bt107.2 = 5 then (some true) else (some false)) else (some false)) else (some false))))) else (some false))))) else (none)) else (none)) else (none))))
def reredoslaw12_ScalarWhole.f (k : Nat) (a0 : Int) (a1 : ByteArray) (a2 : ByteArray) : Option (Bool) := (SL.reredoslaw12_shown.f k).bind fun t101 => (if (a1.size : Int) > 200 then (reredoslaw12_ScalarWhole.j0 k a0 a1 a2 t101 true) else (if (a2.size : Int) > 200 then (reredoslaw12_ScalarWhole.j0 k a0 a1 a2 t101 true) else ((Go.Proofs.YtaidmohjnbibiaaGreatDoor.K.num_May.f a1).bind fun t102 => (if t102 = true then ((Go.Proofs.YtaidmohjnbibiaaGreatDoor.K.num_May.f a2).bind fun t103 => (reredoslaw12_ScalarWhole.j0 k a0 a1 a2 t101 (!t103))) else (reredoslaw12_ScalarWhole.j0 k a0 a1 a2 t101 true)))))
set_option maxHeartbeats 8000000 in
set_option maxRecDepth 100000 in
theorem reredoslaw12_ScalarWhole.calls (k : Nat) (a0 : Int) (a1 : ByteArray) (a2 : ByteArray) (r : Bool) (w : World) (hG : Hd.GL w) (h : reredoslaw12_ScalarWhole.f k a0 a1 a2 = some r) :
    Calls Tryz.prog 7 #[.int .u8 a0, .string a1, .string a2] w fun e w' => e = .returned (.bool r) ∧ Below w.heap.size w w' := by
  have HGL := Aside0.mk hG
  clear hG
  have HB := Aside0.mk (Below.refl w.heap.size w)
  have H : ((SL.reredoslaw12_shown.f k).bind fun t101 => (if (a1.size : Int) > 200 then (reredoslaw12_ScalarWhole.j0 k a0 a1 a2 t101 true) else (if (a2.size : Int) > 200 then (reredoslaw12_ScalarWhole.j0 k a0 a1 a2 t101 true) else ((Go.Proofs.YtaidmohjnbibiaaGreatDoor.K.num_May.f a1).bind fun t102 => (if t102 = true then ((Go.Proofs.YtaidmohjnbibiaaGreatDoor.K.num_May.f a2).bind fun t103 => (reredoslaw12_ScalarWhole.j0 k a0 a1 a2 t101 (!t103))) else (reredoslaw12_ScalarWhole.j0 k a0 a1 a2 t101 true)))))) = some r := h
  clear h
  refine bnd H ?_; clear H; intro t101 A4 H
  have HC5 := Aside0.mk H
  clear H
  go_enter Tryz.func7, Tryz.ntmps7
  go_upto_region 2 with (first | ((with_reducible refine gate_callee (f := 9) rfl ?_); refine goesL_ (some 16) rfl rfl Tryz.func9 (by kernel_rfl) rfl #[] rfl bkA ?_; (with_reducible refine (SL.reredoslaw12_shown.calls k  t101 _ ?side1 A4.out).mono ?_); (case side1 => exact Hd.GL.below HGL.out bkB); rintro e w6 ⟨rfl, hb⟩; refine ⟨_, rfl, ?_⟩; replace HB := bkS hb; clear hb; (try clear hb2); (try clear hk); (try clear hi)))
  (try simp only [Act.put, List.setIfInBounds_toArray, List.set_cons_zero, List.set_cons_succ])
  go_cut [34] (fun v34 wc => ∃ (kq : Nat) (x34_4 : Bool), v34 = .bool x34_4 ∧ Aside0 (reredoslaw12_ScalarWhole.j0 kq a0 a1 a2 t101 x34_4 = some r) ∧ Aside0 (kq ≤ k) ∧ Aside0 (Below w.heap.size w wc))
  case first =>
    have H := HC5.out
    clear HC5
    refine iteE H ?_ ?_ <;> clear H <;> intro c7 H
    · have c7b0 : decide (200 < (a1.size : Int)) = true := decide_eq_true c7
      have c7b1 : decide (200 < a1.size) = true := decide_eq_true (by omega)
      clear c7
      (first | rw [c7b0] | (simp only [i64_w, i32_w]; rw [c7b0]) | skip)
      have H' := Aside0.mk H
      clear H
      go_wp2
      go_meet
      case rel => exact ⟨_, (true), bkF, H', ⟨by first | omega | exact Nat.le_refl _⟩, ⟨bkB⟩⟩
    · have c7b0 : decide (200 < (a1.size : Int)) = false := decide_eq_false c7
      have c7b1 : decide (200 < a1.size) = false := decide_eq_false (by omega)
      clear c7
      (first | rw [c7b0] | (simp only [i64_w, i32_w]; rw [c7b0]) | skip)
      refine iteE H ?_ ?_ <;> clear H <;> intro c8 H
      · have c8b0 : decide (200 < (a2.size : Int)) = true := decide_eq_true c8
        have c8b1 : decide (200 < a2.size) = true := decide_eq_true (by omega)
        clear c8
        have H' := Aside0.mk H
        clear H
        go_wp2
        go_meet
        case rel => exact ⟨_, (true), bkF, H', ⟨by first | omega | exact Nat.le_refl _⟩, ⟨bkB⟩⟩
      · have c8b0 : decide (200 < (a2.size : Int)) = false := decide_eq_false c8
        have c8b1 : decide (200 < a2.size) = false := decide_eq_false (by omega)
        clear c8
        refine bnd H ?_; clear H; intro t102 A9 H
        go_wp2_with (first | (go_at_call 10; (with_reducible refine (Go.Proofs.YtaidmohjnbibiaaGreatDoor.K.num_May.calls _ _ _ A9.out).mono ?_); rintro e w12 ⟨rfl, hb⟩; replace HB := bkS hb; clear hb; (try clear hb2); (try clear hk); (try clear hi); refine halt ?_))
        refine ⟨?_⟩
        refine iteB H ?_ ?_ <;> clear H <;> rintro rfl H
        · refine bnd H ?_; clear H; intro t103 A11 H
          go_wp2_with (first | (go_at_call 10; (with_reducible refine (Go.Proofs.YtaidmohjnbibiaaGreatDoor.K.num_May.calls _ _ _ A11.out).mono ?_); rintro e w13 ⟨rfl, hb⟩; replace HB := bkS hb; clear hb; (try clear hb2); (try clear hk); (try clear hi); refine halt ?_))
          refine ⟨?_⟩
          have H' := Aside0.mk H
          clear H
          go_wp2
          go_meet
          case rel => exact ⟨_, (!t103), bkF, H', ⟨by first | omega | exact Nat.le_refl _⟩, ⟨bkB⟩⟩
        · have H' := Aside0.mk H
          clear H
          go_wp2
          go_meet
          case rel => exact ⟨_, (true), bkF, H', ⟨by first | omega | exact Nat.le_refl _⟩, ⟨bkB⟩⟩
  case rest =>
    clear HC5
    try clear c1
    try clear p2
    try clear c7
    try clear c7b0
    try clear c7b1
    try clear c8
    try clear c8b0
    try clear c8b1
    try clear c9
    try clear c10
    obtain ⟨kq, x34_4, rfl, HA, HJ4, HB⟩ := hcut
    cases kq with
    | zero => exact absurd HA.out (by simp [reredoslaw12_ScalarWhole.j0])
    | succ kj4 =>
      have H := HA.out
      clear HA
      simp only [reredoslaw12_ScalarWhole.j0] at H
      refine iteB H ?_ ?_ <;> clear H <;> rintro rfl H
      · obtain rfl := Option.some.inj H
        go_wp2
        go_ret
        exact ⟨bkE, bkB⟩
      · refine bnd H ?_; clear H; intro t104 A16 H
        go_wp2_with (first | ((with_reducible refine gate_callee (f := 15) rfl ?_); refine goesC Tryz.func15 (some 36) (SC.scalar_Dyads.calls _ _ A16.out) ?_; rintro e w' ⟨rfl, ⟨nd, rfl⟩⟩; refine ⟨_, rfl, ?_⟩; refine halt ?_))
        refine ⟨?_⟩
        refine iteE H ?_ ?_ <;> clear H <;> intro c17 H
        · have c17b0 : ((t104.size : Int) == 0) = true := beq_iff_eq.mpr c17
          have c17b1 : ((t104.size : Int) != 0) = false := bne_eq_false_iff_eq.mpr c17
          clear c17
          obtain rfl := Option.some.inj H
          go_wp2
          go_ret
          exact ⟨bkE, bkB⟩
        · have c17b0 : ((t104.size : Int) == 0) = false := beq_eq_false_iff_ne.mpr c17
          have c17b1 : ((t104.size : Int) != 0) = true := bne_iff_ne.mpr c17
          obtain ⟨ji18, hji18⟩ : ∃ j_ : Int, (Int.tmod (wrap64 (a0)) (t104.size : Int)) = j_ := ⟨_, rfl⟩
          replace H : (if 0 ≤ (ji18) then (if (ji18) ≤ (wrap64 ((ji18) + 1)) then (if (wrap64 ((ji18) + 1)) ≤ (t104.size : Int) then ((Hd.scalarDyad.f kj4 (t104.extract ((ji18) : Int).toNat ((wrap64 ((ji18) + 1)) : Int).toNat) a1 a2).bind fun bt105 => ((Hd.scalarDyad.f kj4 (t104.extract ((ji18) : Int).toNat ((wrap64 ((ji18) + 1)) : Int).toNat) a1 (⟨#[48]⟩ : ByteArray)).bind fun bt107 => ((SL.scalar_Whole.f (t104.extract ((ji18) : Int).toNat ((wrap64 ((ji18) + 1)) : Int).toNat)).bind fun t109 => (if t101 = true then (if bt105.2 = 0 then ((Go.Proofs.YtaidmohjnbibiaaGreatDoor.K.num_May.f bt105.1).bind fun t110 => (if t110 = true then (if t109 = true then (if bt105.2 = 5 then (some false) else (some (bt107.2 != 5))) else (if bt107.2 = 5 then (some true) else (some false))) else (if bt105.2 = 8 then (if bt105.1.toList = ([] : List UInt8) then (if t109 = true then (if bt105.2 = 5 then (some false) else (some (bt107.2 != 5))) else (if bt107.2 = 5 then (some true) else (some false))) else (if t109 = true then (some false) else (if a2.toList = ([48] : List UInt8) then (if bt105.2 = 5 then (if bt107.2 = 5 then (some true) else (some false)) else (some false)) else (some false)))) else (if t109 = true then (some false) else (if a2.toList = ([48] : List UInt8) then (if bt105.2 = 5 then (if bt107.2 = 5 then (some true) else (some false)) else (some false)) else (some false)))))) else (if bt105.2 = 8 then (if bt105.1.toList = ([] : List UInt8) then (if t109 = true then (if bt105.2 = 5 then (some false) else (some (bt107.2 != 5))) else (if bt107.2 = 5 then (some true) else (some false))) else (if t109 = true then (some false) else (if a2.toList = ([48] : List UInt8) then (if bt105.2 = 5 then (if bt107.2 = 5 then (some true) else (some false)) else (some false)) else (some false)))) else (if t109 = true then (some false) else (if a2.toList = ([48] : List UInt8) then (if bt105.2 = 5 then (if bt107.2 = 5 then (some true) else (some false)) else (some false)) else (some false))))) else (some false))))) else (none)) else (none)) else (none)) = some r := by first | (rw [hji18] at H; exact H) | (simp only [hji18] at H ⊢; exact H)
          (try rw [hji18] at A16)
          refine iteE H ?_ ?_ <;> clear H <;> intro c19 H
          · have c19b0 := eq_true c19
            have c19b1 : decide (0 ≤ (ji18)) = true := decide_eq_true c19
            clear c19
            refine iteE H ?_ ?_ <;> clear H <;> intro c20 H
            · have c20b0 := eq_true c20
              have c20b1 : decide ((ji18) ≤ (wrap64 ((ji18) + 1))) = true := decide_eq_true c20
              refine iteE H ?_ ?_ <;> clear H <;> intro c21 H
              · have c21b0 := eq_true c21
                have c21b1 : decide ((wrap64 ((ji18) + 1)) ≤ (t104.size : Int)) = true := decide_eq_true c21
                refine bnd2 H ?_; clear H; intro t105 t106 A22 H; try dsimp only at H
                go_wp2_with (first | ((with_reducible refine gate_callee (f := 11) rfl ?_); refine goesL_ (some 54) rfl rfl Tryz.func11 (by kernel_rfl) rfl #[.string (t104.extract ((ji18) : Int).toNat ((wrap64 ((ji18) + 1)) : Int).toNat), .string a1, .string a2] rfl (by (try simp only [List.map_toArray, List.map_cons, List.map_nil]); first | done | (simp only [hji18]; rfl) | rfl | (simp only [List.length_drop, List.length_take]; rfl)) ?_; (with_reducible refine (Hd.scalarDyad.calls _ _ _ _ _ _ _ ?side1 A22.out).mono ?_); (case side1 => exact Hd.GL.below HGL.out bkB); rintro e w31 ⟨rfl, hb⟩; refine ⟨_, rfl, ?_⟩; replace HB := bkS hb; clear hb; (try clear hb2); (try clear hk); (try clear hi); refine halt ?_))
                refine ⟨?_⟩
                refine bnd2 H ?_; clear H; intro t107 t108 A23 H; try dsimp only at H
                go_wp2_with (first | ((with_reducible refine gate_callee (f := 11) rfl ?_); refine goesL_ (some 60) rfl rfl Tryz.func11 (by kernel_rfl) rfl #[.string (t104.extract ((ji18) : Int).toNat ((wrap64 ((ji18) + 1)) : Int).toNat), .string a1, .string (⟨#[48]⟩ : ByteArray)] rfl (by (try simp only [List.map_toArray, List.map_cons, List.map_nil]); first | done | (simp only [hji18]; rfl) | rfl | (simp only [List.length_drop, List.length_take]; rfl)) ?_; (with_reducible refine (Hd.scalarDyad.calls _ _ _ _ _ _ _ ?side1 A23.out).mono ?_); (case side1 => exact Hd.GL.below HGL.out bkB); rintro e w32 ⟨rfl, hb⟩; refine ⟨_, rfl, ?_⟩; replace HB := bkS hb; clear hb; (try clear hb2); (try clear hk); (try clear hi); refine halt ?_))
                refine ⟨?_⟩
                refine bnd H ?_; clear H; intro t109 A24 H
                go_wp2_with (first | ((with_reducible refine gate_callee (f := 16) rfl ?_); refine goesL_ (some 64) rfl rfl Tryz.func16 (by kernel_rfl) rfl #[.string (t104.extract ((ji18) : Int).toNat ((wrap64 ((ji18) + 1)) : Int).toNat)] rfl (by (try simp only [List.map_toArray, List.map_cons, List.map_nil]); first | done | (simp only [hji18]; rfl) | rfl | (simp only [List.length_drop, List.length_take]; rfl)) ?_; (with_reducible refine (SL.scalar_Whole.calls _ _ _ A24.out).mono ?_); rintro e w' ⟨rfl, ⟨nd, rfl⟩⟩; refine ⟨_, rfl, ?_⟩; refine halt ?_))
                refine ⟨?_⟩
                refine iteB H ?_ ?_ <;> clear H <;> rintro rfl H
                · by_cases c26 : t106 = 0
                  · rw [if_pos c26] at H
                    have c26b0 : (t106 == 0) = true := beq_iff_eq.mpr c26
                    have c26b1 : (t106 != 0) = false := bne_eq_false_iff_eq.mpr c26
                    clear c26
                    refine bnd H ?_; clear H; intro t110 A27 H
                    go_wp2_with (first | (go_at_call 10; (with_reducible refine (Go.Proofs.YtaidmohjnbibiaaGreatDoor.K.num_May.calls _ _ _ A27.out).mono ?_); rintro e w33 ⟨rfl, hb⟩; replace HB := bkS hb; clear hb; (try clear hb2); (try clear hk); (try clear hi); refine halt ?_))
                    refine ⟨?_⟩
                    refine iteB H ?_ ?_ <;> clear H <;> rintro rfl H
                    · by_cases c29 : t109 = true
                      · subst c29
                        rw [if_pos rfl] at H
                        refine iteE H ?_ ?_ <;> clear H <;> intro c30 H
                        · have c30b0 : (t106 == 5) = true := beq_iff_eq.mpr c30
                          have c30b1 : (t106 != 5) = false := bne_eq_false_iff_eq.mpr c30
                          clear c30
                          obtain rfl := Option.some.inj H
                          go_wp2
                          go_ret
                          exact ⟨by first | rfl | (simp [errW_none, errW_some] <;> rfl) | (simp only [← hji18]; first | rfl | (simp [errW_none, errW_some] <;> rfl)) | (simp [*, errW_none, errW_some] <;> rfl), bkB⟩
                        · have c30b0 : (t106 == 5) = false := beq_eq_false_iff_ne.mpr c30
                          have c30b1 : (t106 != 5) = true := bne_iff_ne.mpr c30
                          obtain rfl := Option.some.inj H
                          go_wp2
                          go_ret
                          exact ⟨by first | rfl | (simp [errW_none, errW_some] <;> rfl) | (simp only [← hji18]; first | rfl | (simp [errW_none, errW_some] <;> rfl)) | (simp [*, errW_none, errW_some] <;> rfl), bkB⟩
                      · replace c29 := Bool.eq_false_iff.mpr c29
                        subst c29
                        rw [if_neg Bool.false_ne_true] at H
                        refine iteE H ?_ ?_ <;> clear H <;> intro c37 H
                        · have c37b0 : (t108 == 5) = true := beq_iff_eq.mpr c37
                          have c37b1 : (t108 != 5) = false := bne_eq_false_iff_eq.mpr c37
                          clear c37
                          obtain rfl := Option.some.inj H
                          go_wp2
                          go_ret
                          exact ⟨by first | rfl | (simp [errW_none, errW_some] <;> rfl) | (simp only [← hji18]; first | rfl | (simp [errW_none, errW_some] <;> rfl)) | (simp [*, errW_none, errW_some] <;> rfl), bkB⟩
                        · have c37b0 : (t108 == 5) = false := beq_eq_false_iff_ne.mpr c37
                          have c37b1 : (t108 != 5) = true := bne_iff_ne.mpr c37
                          obtain rfl := Option.some.inj H
                          go_wp2
                          go_ret
                          exact ⟨by first | rfl | (simp [errW_none, errW_some] <;> rfl) | (simp only [← hji18]; first | rfl | (simp [errW_none, errW_some] <;> rfl)) | (simp [*, errW_none, errW_some] <;> rfl), bkB⟩
                    · by_cases c44 : t106 = 8
                      · rw [if_pos c44] at H
                        have c44b0 : (t106 == 8) = true := beq_iff_eq.mpr c44
                        have c44b1 : (t106 != 8) = false := bne_eq_false_iff_eq.mpr c44
                        clear c44
                        refine iteE H ?_ ?_ <;> clear H <;> intro c45 H
                        · have c45b0 : (t105.toList == ([] : List UInt8)) = true := beq_iff_eq.mpr c45
                          have c45b1 : (t105.toList != ([] : List UInt8)) = false := bne_eq_false_iff_eq.mpr c45
                          clear c45
                          refine iteB H ?_ ?_ <;> clear H <;> rintro rfl H
                          · by_cases c47 : t106 = 5
                            · rw [if_pos c47] at H
                              have c47b0 : (t106 == 5) = true := beq_iff_eq.mpr c47
                              have c47b1 : (t106 != 5) = false := bne_eq_false_iff_eq.mpr c47
                              clear c47
                              obtain rfl := Option.some.inj H
                              go_wp2
                              go_ret
                              exact ⟨by first | rfl | (simp [errW_none, errW_some] <;> rfl) | (simp only [← hji18]; first | rfl | (simp [errW_none, errW_some] <;> rfl)) | (simp [*, errW_none, errW_some] <;> rfl), bkB⟩
                            · rw [if_neg c47] at H
                              have c47b0 : (t106 == 5) = false := beq_eq_false_iff_ne.mpr c47
                              have c47b1 : (t106 != 5) = true := bne_iff_ne.mpr c47
                              obtain rfl := Option.some.inj H
                              go_wp2
                              go_ret
                              exact ⟨by first | rfl | (simp [errW_none, errW_some] <;> rfl) | (simp only [← hji18]; first | rfl | (simp [errW_none, errW_some] <;> rfl)) | (simp [*, errW_none, errW_some] <;> rfl), bkB⟩
                          · by_cases c54 : t108 = 5
                            · rw [if_pos c54] at H
                              have c54b0 : (t108 == 5) = true := beq_iff_eq.mpr c54
                              have c54b1 : (t108 != 5) = false := bne_eq_false_iff_eq.mpr c54
                              clear c54
                              obtain rfl := Option.some.inj H
                              go_wp2
                              go_ret
                              exact ⟨by first | rfl | (simp [errW_none, errW_some] <;> rfl) | (simp only [← hji18]; first | rfl | (simp [errW_none, errW_some] <;> rfl)) | (simp [*, errW_none, errW_some] <;> rfl), bkB⟩
                            · rw [if_neg c54] at H
                              have c54b0 : (t108 == 5) = false := beq_eq_false_iff_ne.mpr c54
                              have c54b1 : (t108 != 5) = true := bne_iff_ne.mpr c54
                              obtain rfl := Option.some.inj H
                              go_wp2
                              go_ret
                              exact ⟨by first | rfl | (simp [errW_none, errW_some] <;> rfl) | (simp only [← hji18]; first | rfl | (simp [errW_none, errW_some] <;> rfl)) | (simp [*, errW_none, errW_some] <;> rfl), bkB⟩
                        · have c45b0 : (t105.toList == ([] : List UInt8)) = false := beq_eq_false_iff_ne.mpr c45
                          have c45b1 : (t105.toList != ([] : List UInt8)) = true := bne_iff_ne.mpr c45
                          refine iteB H ?_ ?_ <;> clear H <;> rintro rfl H
                          · obtain rfl := Option.some.inj H
                            go_wp2
                            go_ret
                            exact ⟨by first | rfl | (simp [errW_none, errW_some] <;> rfl) | (simp only [← hji18]; first | rfl | (simp [errW_none, errW_some] <;> rfl)) | (simp [*, errW_none, errW_some] <;> rfl), bkB⟩
                          · by_cases c65 : a2.toList = ([48] : List UInt8)
                            · rw [if_pos c65] at H
                              have c65b0 : (a2.toList == ([48] : List UInt8)) = true := beq_iff_eq.mpr c65
                              have c65b1 : (a2.toList != ([48] : List UInt8)) = false := bne_eq_false_iff_eq.mpr c65
                              clear c65
                              refine iteE H ?_ ?_ <;> clear H <;> intro c66 H
                              · have c66b0 : (t106 == 5) = true := beq_iff_eq.mpr c66
                                have c66b1 : (t106 != 5) = false := bne_eq_false_iff_eq.mpr c66
                                clear c66
                                refine iteE H ?_ ?_ <;> clear H <;> intro c67 H
                                · have c67b0 : (t108 == 5) = true := beq_iff_eq.mpr c67
                                  have c67b1 : (t108 != 5) = false := bne_eq_false_iff_eq.mpr c67
                                  clear c67
                                  obtain rfl := Option.some.inj H
                                  go_wp2
                                  go_ret
                                  exact ⟨by first | rfl | (simp [errW_none, errW_some] <;> rfl) | (simp only [← hji18]; first | rfl | (simp [errW_none, errW_some] <;> rfl)) | (simp [*, errW_none, errW_some] <;> rfl), bkB⟩
                                · have c67b0 : (t108 == 5) = false := beq_eq_false_iff_ne.mpr c67
                                  have c67b1 : (t108 != 5) = true := bne_iff_ne.mpr c67
                                  obtain rfl := Option.some.inj H
                                  go_wp2
                                  go_ret
                                  exact ⟨by first | rfl | (simp [errW_none, errW_some] <;> rfl) | (simp only [← hji18]; first | rfl | (simp [errW_none, errW_some] <;> rfl)) | (simp [*, errW_none, errW_some] <;> rfl), bkB⟩
                              · have c66b0 : (t106 == 5) = false := beq_eq_false_iff_ne.mpr c66
                                have c66b1 : (t106 != 5) = true := bne_iff_ne.mpr c66
                                obtain rfl := Option.some.inj H
                                go_wp2
                                go_ret
                                exact ⟨by first | rfl | (simp [errW_none, errW_some] <;> rfl) | (simp only [← hji18]; first | rfl | (simp [errW_none, errW_some] <;> rfl)) | (simp [*, errW_none, errW_some] <;> rfl), bkB⟩
                            · rw [if_neg c65] at H
                              have c65b0 : (a2.toList == ([48] : List UInt8)) = false := beq_eq_false_iff_ne.mpr c65
                              have c65b1 : (a2.toList != ([48] : List UInt8)) = true := bne_iff_ne.mpr c65
                              obtain rfl := Option.some.inj H
                              go_wp2
                              go_ret
                              exact ⟨by first | rfl | (simp [errW_none, errW_some] <;> rfl) | (simp only [← hji18]; first | rfl | (simp [errW_none, errW_some] <;> rfl)) | (simp [*, errW_none, errW_some] <;> rfl), bkB⟩
                      · rw [if_neg c44] at H
                        have c44b0 : (t106 == 8) = false := beq_eq_false_iff_ne.mpr c44
                        have c44b1 : (t106 != 8) = true := bne_iff_ne.mpr c44
                        refine iteB H ?_ ?_ <;> clear H <;> rintro rfl H
                        · obtain rfl := Option.some.inj H
                          go_wp2
                          go_ret
                          exact ⟨by first | rfl | (simp [errW_none, errW_some] <;> rfl) | (simp only [← hji18]; first | rfl | (simp [errW_none, errW_some] <;> rfl)) | (simp [*, errW_none, errW_some] <;> rfl), bkB⟩
                        · by_cases c84 : a2.toList = ([48] : List UInt8)
                          · rw [if_pos c84] at H
                            have c84b0 : (a2.toList == ([48] : List UInt8)) = true := beq_iff_eq.mpr c84
                            have c84b1 : (a2.toList != ([48] : List UInt8)) = false := bne_eq_false_iff_eq.mpr c84
                            clear c84
                            refine iteE H ?_ ?_ <;> clear H <;> intro c85 H
                            · have c85b0 : (t106 == 5) = true := beq_iff_eq.mpr c85
                              have c85b1 : (t106 != 5) = false := bne_eq_false_iff_eq.mpr c85
                              clear c85
                              refine iteE H ?_ ?_ <;> clear H <;> intro c86 H
                              · have c86b0 : (t108 == 5) = true := beq_iff_eq.mpr c86
                                have c86b1 : (t108 != 5) = false := bne_eq_false_iff_eq.mpr c86
                                clear c86
                                obtain rfl := Option.some.inj H
                                go_wp2
                                go_ret
                                exact ⟨by first | rfl | (simp [errW_none, errW_some] <;> rfl) | (simp only [← hji18]; first | rfl | (simp [errW_none, errW_some] <;> rfl)) | (simp [*, errW_none, errW_some] <;> rfl), bkB⟩
                              · have c86b0 : (t108 == 5) = false := beq_eq_false_iff_ne.mpr c86
                                have c86b1 : (t108 != 5) = true := bne_iff_ne.mpr c86
                                obtain rfl := Option.some.inj H
                                go_wp2
                                go_ret
                                exact ⟨by first | rfl | (simp [errW_none, errW_some] <;> rfl) | (simp only [← hji18]; first | rfl | (simp [errW_none, errW_some] <;> rfl)) | (simp [*, errW_none, errW_some] <;> rfl), bkB⟩
                            · have c85b0 : (t106 == 5) = false := beq_eq_false_iff_ne.mpr c85
                              have c85b1 : (t106 != 5) = true := bne_iff_ne.mpr c85
                              obtain rfl := Option.some.inj H
                              go_wp2
                              go_ret
                              exact ⟨by first | rfl | (simp [errW_none, errW_some] <;> rfl) | (simp only [← hji18]; first | rfl | (simp [errW_none, errW_some] <;> rfl)) | (simp [*, errW_none, errW_some] <;> rfl), bkB⟩
                          · rw [if_neg c84] at H
                            have c84b0 : (a2.toList == ([48] : List UInt8)) = false := beq_eq_false_iff_ne.mpr c84
                            have c84b1 : (a2.toList != ([48] : List UInt8)) = true := bne_iff_ne.mpr c84
                            obtain rfl := Option.some.inj H
                            go_wp2
                            go_ret
                            exact ⟨by first | rfl | (simp [errW_none, errW_some] <;> rfl) | (simp only [← hji18]; first | rfl | (simp [errW_none, errW_some] <;> rfl)) | (simp [*, errW_none, errW_some] <;> rfl), bkB⟩
                  · rw [if_neg c26] at H
                    have c26b0 : (t106 == 0) = false := beq_eq_false_iff_ne.mpr c26
                    have c26b1 : (t106 != 0) = true := bne_iff_ne.mpr c26
                    refine iteE H ?_ ?_ <;> clear H <;> intro c99 H
                    · have c99b0 : (t106 == 8) = true := beq_iff_eq.mpr c99
                      have c99b1 : (t106 != 8) = false := bne_eq_false_iff_eq.mpr c99
                      clear c99
                      refine iteE H ?_ ?_ <;> clear H <;> intro c100 H
                      · have c100b0 : (t105.toList == ([] : List UInt8)) = true := beq_iff_eq.mpr c100
                        have c100b1 : (t105.toList != ([] : List UInt8)) = false := bne_eq_false_iff_eq.mpr c100
                        clear c100
                        refine iteB H ?_ ?_ <;> clear H <;> rintro rfl H
                        · by_cases c102 : t106 = 5
                          · rw [if_pos c102] at H
                            have c102b0 : (t106 == 5) = true := beq_iff_eq.mpr c102
                            have c102b1 : (t106 != 5) = false := bne_eq_false_iff_eq.mpr c102
                            clear c102
                            obtain rfl := Option.some.inj H
                            go_wp2
                            go_ret
                            exact ⟨by first | rfl | (simp [errW_none, errW_some] <;> rfl) | (simp only [← hji18]; first | rfl | (simp [errW_none, errW_some] <;> rfl)) | (simp [*, errW_none, errW_some] <;> rfl), bkB⟩
                          · rw [if_neg c102] at H
                            have c102b0 : (t106 == 5) = false := beq_eq_false_iff_ne.mpr c102
                            have c102b1 : (t106 != 5) = true := bne_iff_ne.mpr c102
                            obtain rfl := Option.some.inj H
                            go_wp2
                            go_ret
                            exact ⟨by first | rfl | (simp [errW_none, errW_some] <;> rfl) | (simp only [← hji18]; first | rfl | (simp [errW_none, errW_some] <;> rfl)) | (simp [*, errW_none, errW_some] <;> rfl), bkB⟩
                        · by_cases c107 : t108 = 5
                          · rw [if_pos c107] at H
                            have c107b0 : (t108 == 5) = true := beq_iff_eq.mpr c107
                            have c107b1 : (t108 != 5) = false := bne_eq_false_iff_eq.mpr c107
                            clear c107
                            obtain rfl := Option.some.inj H
                            go_wp2
                            go_ret
                            exact ⟨by first | rfl | (simp [errW_none, errW_some] <;> rfl) | (simp only [← hji18]; first | rfl | (simp [errW_none, errW_some] <;> rfl)) | (simp [*, errW_none, errW_some] <;> rfl), bkB⟩
                          · rw [if_neg c107] at H
                            have c107b0 : (t108 == 5) = false := beq_eq_false_iff_ne.mpr c107
                            have c107b1 : (t108 != 5) = true := bne_iff_ne.mpr c107
                            obtain rfl := Option.some.inj H
                            go_wp2
                            go_ret
                            exact ⟨by first | rfl | (simp [errW_none, errW_some] <;> rfl) | (simp only [← hji18]; first | rfl | (simp [errW_none, errW_some] <;> rfl)) | (simp [*, errW_none, errW_some] <;> rfl), bkB⟩
                      · have c100b0 : (t105.toList == ([] : List UInt8)) = false := beq_eq_false_iff_ne.mpr c100
                        have c100b1 : (t105.toList != ([] : List UInt8)) = true := bne_iff_ne.mpr c100
                        refine iteB H ?_ ?_ <;> clear H <;> rintro rfl H
                        · obtain rfl := Option.some.inj H
                          go_wp2
                          go_ret
                          exact ⟨by first | rfl | (simp [errW_none, errW_some] <;> rfl) | (simp only [← hji18]; first | rfl | (simp [errW_none, errW_some] <;> rfl)) | (simp [*, errW_none, errW_some] <;> rfl), bkB⟩
                        · by_cases c115 : a2.toList = ([48] : List UInt8)
                          · rw [if_pos c115] at H
                            have c115b0 : (a2.toList == ([48] : List UInt8)) = true := beq_iff_eq.mpr c115
                            have c115b1 : (a2.toList != ([48] : List UInt8)) = false := bne_eq_false_iff_eq.mpr c115
                            clear c115
                            refine iteE H ?_ ?_ <;> clear H <;> intro c116 H
                            · have c116b0 : (t106 == 5) = true := beq_iff_eq.mpr c116
                              have c116b1 : (t106 != 5) = false := bne_eq_false_iff_eq.mpr c116
                              clear c116
                              refine iteE H ?_ ?_ <;> clear H <;> intro c117 H
                              · have c117b0 : (t108 == 5) = true := beq_iff_eq.mpr c117
                                have c117b1 : (t108 != 5) = false := bne_eq_false_iff_eq.mpr c117
                                clear c117
                                obtain rfl := Option.some.inj H
                                go_wp2
                                go_ret
                                exact ⟨by first | rfl | (simp [errW_none, errW_some] <;> rfl) | (simp only [← hji18]; first | rfl | (simp [errW_none, errW_some] <;> rfl)) | (simp [*, errW_none, errW_some] <;> rfl), bkB⟩
                              · have c117b0 : (t108 == 5) = false := beq_eq_false_iff_ne.mpr c117
                                have c117b1 : (t108 != 5) = true := bne_iff_ne.mpr c117
                                obtain rfl := Option.some.inj H
                                go_wp2
                                go_ret
                                exact ⟨by first | rfl | (simp [errW_none, errW_some] <;> rfl) | (simp only [← hji18]; first | rfl | (simp [errW_none, errW_some] <;> rfl)) | (simp [*, errW_none, errW_some] <;> rfl), bkB⟩
                            · have c116b0 : (t106 == 5) = false := beq_eq_false_iff_ne.mpr c116
                              have c116b1 : (t106 != 5) = true := bne_iff_ne.mpr c116
                              obtain rfl := Option.some.inj H
                              go_wp2
                              go_ret
                              exact ⟨by first | rfl | (simp [errW_none, errW_some] <;> rfl) | (simp only [← hji18]; first | rfl | (simp [errW_none, errW_some] <;> rfl)) | (simp [*, errW_none, errW_some] <;> rfl), bkB⟩
                          · rw [if_neg c115] at H
                            have c115b0 : (a2.toList == ([48] : List UInt8)) = false := beq_eq_false_iff_ne.mpr c115
                            have c115b1 : (a2.toList != ([48] : List UInt8)) = true := bne_iff_ne.mpr c115
                            obtain rfl := Option.some.inj H
                            go_wp2
                            go_ret
                            exact ⟨by first | rfl | (simp [errW_none, errW_some] <;> rfl) | (simp only [← hji18]; first | rfl | (simp [errW_none, errW_some] <;> rfl)) | (simp [*, errW_none, errW_some] <;> rfl), bkB⟩
                    · have c99b0 : (t106 == 8) = false := beq_eq_false_iff_ne.mpr c99
                      have c99b1 : (t106 != 8) = true := bne_iff_ne.mpr c99
                      refine iteB H ?_ ?_ <;> clear H <;> rintro rfl H
                      · obtain rfl := Option.some.inj H
                        go_wp2
                        go_ret
                        exact ⟨by first | rfl | (simp [errW_none, errW_some] <;> rfl) | (simp only [← hji18]; first | rfl | (simp [errW_none, errW_some] <;> rfl)) | (simp [*, errW_none, errW_some] <;> rfl), bkB⟩
                      · by_cases c129 : a2.toList = ([48] : List UInt8)
                        · rw [if_pos c129] at H
                          have c129b0 : (a2.toList == ([48] : List UInt8)) = true := beq_iff_eq.mpr c129
                          have c129b1 : (a2.toList != ([48] : List UInt8)) = false := bne_eq_false_iff_eq.mpr c129
                          clear c129
                          refine iteE H ?_ ?_ <;> clear H <;> intro c130 H
                          · have c130b0 : (t106 == 5) = true := beq_iff_eq.mpr c130
                            have c130b1 : (t106 != 5) = false := bne_eq_false_iff_eq.mpr c130
                            clear c130
                            refine iteE H ?_ ?_ <;> clear H <;> intro c131 H
                            · have c131b0 : (t108 == 5) = true := beq_iff_eq.mpr c131
                              have c131b1 : (t108 != 5) = false := bne_eq_false_iff_eq.mpr c131
                              clear c131
                              obtain rfl := Option.some.inj H
                              go_wp2
                              go_ret
                              exact ⟨by first | rfl | (simp [errW_none, errW_some] <;> rfl) | (simp only [← hji18]; first | rfl | (simp [errW_none, errW_some] <;> rfl)) | (simp [*, errW_none, errW_some] <;> rfl), bkB⟩
                            · have c131b0 : (t108 == 5) = false := beq_eq_false_iff_ne.mpr c131
                              have c131b1 : (t108 != 5) = true := bne_iff_ne.mpr c131
                              obtain rfl := Option.some.inj H
                              go_wp2
                              go_ret
                              exact ⟨by first | rfl | (simp [errW_none, errW_some] <;> rfl) | (simp only [← hji18]; first | rfl | (simp [errW_none, errW_some] <;> rfl)) | (simp [*, errW_none, errW_some] <;> rfl), bkB⟩
                          · have c130b0 : (t106 == 5) = false := beq_eq_false_iff_ne.mpr c130
                            have c130b1 : (t106 != 5) = true := bne_iff_ne.mpr c130
                            obtain rfl := Option.some.inj H
                            go_wp2
                            go_ret
                            exact ⟨by first | rfl | (simp [errW_none, errW_some] <;> rfl) | (simp only [← hji18]; first | rfl | (simp [errW_none, errW_some] <;> rfl)) | (simp [*, errW_none, errW_some] <;> rfl), bkB⟩
                        · rw [if_neg c129] at H
                          have c129b0 : (a2.toList == ([48] : List UInt8)) = false := beq_eq_false_iff_ne.mpr c129
                          have c129b1 : (a2.toList != ([48] : List UInt8)) = true := bne_iff_ne.mpr c129
                          obtain rfl := Option.some.inj H
                          go_wp2
                          go_ret
                          exact ⟨by first | rfl | (simp [errW_none, errW_some] <;> rfl) | (simp only [← hji18]; first | rfl | (simp [errW_none, errW_some] <;> rfl)) | (simp [*, errW_none, errW_some] <;> rfl), bkB⟩
                · obtain rfl := Option.some.inj H
                  go_wp2
                  go_ret
                  exact ⟨by first | rfl | (simp [errW_none, errW_some] <;> rfl) | (simp only [← hji18]; first | rfl | (simp [errW_none, errW_some] <;> rfl)) | (simp [*, errW_none, errW_some] <;> rfl), bkB⟩
              · exact absurd H (by simp)
            · exact absurd H (by simp)
          · exact absurd H (by simp)
/-- THE ONE PURE STATEMENT of reredoslaw12_ScalarWhole: yours. -/
def reredoslaw12_ScalarWhole.Pure : Prop := ∀ (a0 : Int) (a1 : ByteArray) (a2 : ByteArray), (Lit.int .u8 a0).wf = true → a1.size ≤ 140737488351232 → a2.size ≤ 140737488351232 → ∃ k, reredoslaw12_ScalarWhole.f k a0 a1 a2 = some true
theorem reredoslaw12_ScalarWhole.walk (P : reredoslaw12_ScalarWhole.Pure) (a0 : Int) (a1 : ByteArray) (a2 : ByteArray) (w : World) (w0 : (Lit.int .u8 a0).wf = true) (w1 : a1.size ≤ 140737488351232) (w2 : a2.size ≤ 140737488351232) (hG : Hd.GL w) :
    Calls Tryz.prog 7 #[.int .u8 a0, .string a1, .string a2] w fun e w' => e = .returned (.bool true) ∧ Below w.heap.size w w' := by
  obtain ⟨k, h⟩ := P a0 a1 a2 w0 w1 w2
  refine (reredoslaw12_ScalarWhole.calls k a0 a1 a2 true w hG h).mono ?_
  rintro e w' ⟨rfl, hd⟩
  exact ⟨rfl, hd⟩
end Go.Proofs.YtaidmohjnbibiaaGreatDoor.LScalarWhole
end
