/- What the law leans on, part 14: declarations of several texts of ours, in their order. -/
import Derived.Test.YtcpaajecppplhaaGreatDoorXN12
section
namespace Go.Proofs.YtcpaajecppplhaaGreatDoor.K
open Go.RowKit Go.Proofs.YtcpaajecppplhaaGreatDoorW.PrintWords Go.Proofs.YtcpaajecppplhaaGreatDoorW.PrintLast Go.Proofs.YtcpaajecppplhaaGreatDoorW.PrintMore Go.Proofs.YtcpaajecppplhaaGreatDoor.B
attribute [local go_sem] max2_int min2_int max_two min_two max_three min_three max_four min_four
set_option linter.unusedVariables false
set_option linter.unusedSimpArgs false
/-! ### reredosref01_low: function 183 -/
def reredosref01_low.f (a0 : ByteArray) : Option (Bool) := if a0.toList = ([] : List UInt8) then (some false) else (if 0 < (a0.size : Int) then (some ((bt a0 0) == 45)) else (none))
set_option maxHeartbeats 8000000 in
set_option maxRecDepth 100000 in
theorem reredosref01_low.calls (a0 : ByteArray) (r : Bool) (w : World) (h : reredosref01_low.f a0 = some r) :
    Calls Tryz.prog 183 #[.string a0] w fun e w' => e = .returned (.bool r) ∧ Drawn0 w w' := by
  have H : (if a0.toList = ([] : List UInt8) then (some false) else (if 0 < (a0.size : Int) then (some ((bt a0 0) == 45)) else (none))) = some r := h
  clear h
  refine iteE H ?_ ?_ <;> clear H <;> intro c2 H
  · have c2b0 : (a0.toList == ([] : List UInt8)) = true := beq_iff_eq.mpr c2
    have c2b1 : (a0.toList != ([] : List UInt8)) = false := bne_eq_false_iff_eq.mpr c2
    clear c2
    obtain rfl := Option.some.inj H
    go_enter Tryz.func183, Tryz.ntmps183
    go_wp2
    go_ret
    exact ⟨bkF, bkD⟩
  · have c2b0 : (a0.toList == ([] : List UInt8)) = false := beq_eq_false_iff_ne.mpr c2
    have c2b1 : (a0.toList != ([] : List UInt8)) = true := bne_iff_ne.mpr c2
    refine iteE H ?_ ?_ <;> clear H <;> intro c3 H
    · have c3b0 : decide (0 < (a0.size : Int)) = true := decide_eq_true c3
      have c3b1 : decide (0 < a0.size) = true := decide_eq_true (by omega)
      clear c3
      obtain rfl := Option.some.inj H
      have p4 : 0 ≤ (0 : Int) := (by omega)
      have q4 : 0 < a0.size := (by have : (0 : Int) < (a0.size : Int) := of_decide_eq_true (by first | (with_reducible assumption) | assumption); omega)
      have hx4 : ∀ h : 0 < a0.size, ((a0[0]'h).toNat : Int) = bt a0 0 := bt_at a0 0
      clear p4
      have qi4 : (0 < (a0.size : Int)) = True := eq_true (of_decide_eq_true (by first | (with_reducible assumption) | assumption))
      replace q4 := eq_true q4
      go_enter Tryz.func183, Tryz.ntmps183
      go_wp2
      go_ret
      exact ⟨bkF, bkD⟩
    · exact absurd H (by simp)
/-! ### reredosref01_size: function 182 -/
def reredosref01_size.f (a0 : ByteArray) : Option (ByteArray) := (reredosref01_low.f a0).bind fun t165 => (if t165 = true then (if 1 ≤ (a0.size : Int) then (some (a0.extract 1 a0.size)) else (none)) else (some a0))
set_option maxHeartbeats 8000000 in
set_option maxRecDepth 100000 in
theorem reredosref01_size.calls (a0 : ByteArray) (r : ByteArray) (w : World) (h : reredosref01_size.f a0 = some r) :
    Calls Tryz.prog 182 #[.string a0] w fun e w' => e = .returned (.string r) ∧ Drawn0 w w' := by
  have H : ((reredosref01_low.f a0).bind fun t165 => (if t165 = true then (if 1 ≤ (a0.size : Int) then (some (a0.extract 1 a0.size)) else (none)) else (some a0))) = some r := h
  clear h
  refine bnd H ?_; clear H; intro t165 A2 H
  refine iteB H ?_ ?_ <;> clear H <;> rintro rfl H
  · by_cases c4 : 1 ≤ (a0.size : Int)
    · rw [if_pos c4] at H
      have c4b0 := eq_true c4
      have c4b1 : decide (1 ≤ (a0.size : Int)) = true := decide_eq_true c4
      clear c4
      obtain rfl := Option.some.inj H
      go_enter Tryz.func182, Tryz.ntmps182
      go_wp2_with (first | ((with_reducible refine gate_callee (f := 183) rfl ?_); refine goesL_ (some 4) rfl rfl Tryz.func183 (by kernel_rfl) rfl #[.string a0] rfl bkA ?_; (with_reducible refine (reredosref01_low.calls a0 true _ A2.out).mono ?_); rintro e w' ⟨rfl, ⟨nd, rfl⟩⟩; refine ⟨_, rfl, ?_⟩))
      go_ret
      exact ⟨bkF, bkD⟩
    · rw [if_neg c4] at H
      exact absurd H (by simp)
  · obtain rfl := Option.some.inj H
    go_enter Tryz.func182, Tryz.ntmps182
    go_wp2_with (first | ((with_reducible refine gate_callee (f := 183) rfl ?_); refine goesL_ (some 4) rfl rfl Tryz.func183 (by kernel_rfl) rfl #[.string a0] rfl bkA ?_; (with_reducible refine (reredosref01_low.calls a0 false _ A2.out).mono ?_); rintro e w' ⟨rfl, ⟨nd, rfl⟩⟩; refine ⟨_, rfl, ?_⟩))
    go_ret
    exact ⟨bkF, bkD⟩
end Go.Proofs.YtcpaajecppplhaaGreatDoor.K
end
section
namespace Go.Proofs.YtcpaajecppplhaaGreatDoor.K
open Go.RowKit Go.Proofs.YtcpaajecppplhaaGreatDoorW.PrintWords Go.Proofs.YtcpaajecppplhaaGreatDoorW.PrintLast Go.Proofs.YtcpaajecppplhaaGreatDoorW.PrintMore Go.Proofs.YtcpaajecppplhaaGreatDoor.B
attribute [local go_sem] max2_int min2_int max_two min_two max_three min_three max_four min_four
set_option linter.unusedVariables false
set_option linter.unusedSimpArgs false
/-! ### slices_Index_int_int: function 180 -/
def slices_Index_int_int.l0 : Nat → List Int → Int → Int → Int → Option (Int)
  | 0, _, _, _, _ => none
  | k + 1, x0, x1, x7, x8 => if x8 < x7 then (if 0 ≤ x8 then (if x8 < (x0.length : Int) then (if x1 = (rd x0 x8) then (some x8) else (slices_Index_int_int.l0 k x0 x1 x7 (wrap64 (x8 + 1)))) else (none)) else (none)) else (some (-1))
def slices_Index_int_int.f (k : Nat) (l0 : List Int) (a1 : Int) : Option (Int) := slices_Index_int_int.l0 k l0 a1 (l0.length : Int) 0
set_option maxHeartbeats 8000000 in
set_option maxRecDepth 100000 in
theorem slices_Index_int_int.calls (k : Nat) (A0 : Option Addr) (c0 : Nat) (l0 : List Int) (a1 : Int) (r : Int) (w : World) (hr0 : Kd.C (Kd.int .i64) w A0 l0.length l0) (hc0 : l0.length ≤ c0) (h : slices_Index_int_int.f k l0 a1 = some r) :
    Calls Tryz.prog 180 #[.slice A0 l0.length c0, .int .i64 a1] w fun e w' => e = .returned (.int .i64 r) ∧ Drawn0 w w' := by
  have HR0 := Aside0.mk hr0
  have HC0 := Aside0.mk hc0
  clear hr0 hc0
  have H : (slices_Index_int_int.l0 k l0 a1 (l0.length : Int) 0) = some r := h
  clear h
  have H' := Aside0.mk H
  clear H
  go_enter Tryz.func180, Tryz.ntmps180
  go_wp2
  go_loopg [8] k (fun kq v8 w' => ∃ (x8_1 : Int), v8 = .int .i64 x8_1 ∧ Aside0 (slices_Index_int_int.l0 kq l0 a1 (l0.length : Int) x8_1 = some r) ∧ Aside0 (kq ≤ k) ∧ Drawn0 w w')
  case atStart => exact ⟨(0), bkF, H', ⟨Nat.le_refl _⟩, bkD⟩
  case round =>
    clear H'
    try clear c1
    try clear p2
    obtain ⟨x8_1, rfl, HA, HK1, ⟨m1, rfl⟩⟩ := hrel
    cases gk with
    | zero => exact absurd HA.out (by simp [slices_Index_int_int.l0])
    | succ k1 =>
      have H := HA.out
      clear HA
      simp only [slices_Index_int_int.l0] at H
      refine iteE H ?_ ?_ <;> clear H <;> intro c3 H
      · have c3b0 : decide (x8_1 < (l0.length : Int)) = true := decide_eq_true c3
        clear c3
        refine iteE H ?_ ?_ <;> clear H <;> intro c4 H
        · have c4b0 : decide (0 ≤ x8_1) = true := decide_eq_true c4
          clear c4
          refine iteE H ?_ ?_ <;> clear H <;> intro c5 H
          · have c5b0 : decide (x8_1 < (l0.length : Int)) = true := decide_eq_true c5
            clear c5
            refine iteE H ?_ ?_ <;> clear H <;> intro c6 H
            · have c6b0 : (a1 == (rd l0 x8_1)) = true := beq_iff_eq.mpr c6
              have c6b1 : (a1 != (rd l0 x8_1)) = false := bne_eq_false_iff_eq.mpr c6
              clear c6
              obtain rfl := Option.some.inj H
              have p293 : 0 ≤ (x8_1 : Int) := of_decide_eq_true (by first | (with_reducible assumption) | assumption)
              have q293 : x8_1 < (l0.length : Int) := of_decide_eq_true (by first | (with_reducible assumption) | assumption)
              obtain ⟨ad293, e293, hx293_0⟩ := Kd.at_int HR0.out x8_1 p293 q293
              cases e293
              replace p293 := eq_true p293
              replace q293 := eq_true q293
              go_wp2
              go_ret
              exact ⟨bkF, bkD⟩
            · have c6b0 : (a1 == (rd l0 x8_1)) = false := beq_eq_false_iff_ne.mpr c6
              have c6b1 : (a1 != (rd l0 x8_1)) = true := bne_iff_ne.mpr c6
              have H' := Aside0.mk H
              clear H
              have p293 : 0 ≤ (x8_1 : Int) := of_decide_eq_true (by first | (with_reducible assumption) | assumption)
              have q293 : x8_1 < (l0.length : Int) := of_decide_eq_true (by first | (with_reducible assumption) | assumption)
              obtain ⟨ad293, e293, hx293_0⟩ := Kd.at_int HR0.out x8_1 p293 q293
              cases e293
              replace p293 := eq_true p293
              replace q293 := eq_true q293
              go_wp2
              go_roundg k1
              case measure => have := HK1.out; omega
              case rel => exact ⟨(wrap64 (x8_1 + 1)), bkF, H', ⟨by have := HK1.out; omega⟩, bkD⟩
          · exact absurd H (by simp)
        · exact absurd H (by simp)
      · have c3b0 : decide (x8_1 < (l0.length : Int)) = false := decide_eq_false c3
        clear c3
        obtain rfl := Option.some.inj H
        go_wp2
        go_ret
        exact ⟨bkF, bkD⟩
/-! ### slices_Contains_int_int: function 129 -/
def slices_Contains_int_int.f (k : Nat) (l0 : List Int) (a1 : Int) : Option (Bool) := (slices_Index_int_int.f k l0 a1).bind fun t294 => (some (decide (t294 ≥ 0)))
set_option maxHeartbeats 8000000 in
set_option maxRecDepth 100000 in
theorem slices_Contains_int_int.calls (k : Nat) (A0 : Option Addr) (c0 : Nat) (l0 : List Int) (a1 : Int) (r : Bool) (w : World) (hr0 : Kd.C (Kd.int .i64) w A0 l0.length l0) (hc0 : l0.length ≤ c0) (h : slices_Contains_int_int.f k l0 a1 = some r) :
    Calls Tryz.prog 129 #[.slice A0 l0.length c0, .int .i64 a1] w fun e w' => e = .returned (.bool r) ∧ Drawn0 w w' := by
  have HR0 := Aside0.mk hr0
  have HC0 := Aside0.mk hc0
  clear hr0 hc0
  have H : ((slices_Index_int_int.f k l0 a1).bind fun t294 => (some (decide (t294 ≥ 0)))) = some r := h
  clear h
  refine bnd H ?_; clear H; intro t294 A3 H
  obtain rfl := Option.some.inj H
  go_enter Tryz.func129, Tryz.ntmps129
  go_wp2_with (first | ((with_reducible refine gate_callee (f := 180) rfl ?_); refine goesL_ (some 7) rfl rfl Tryz.func180 (by kernel_rfl) rfl #[.slice A0 l0.length c0, .int .i64 a1] rfl bkA ?_; (with_reducible refine (slices_Index_int_int.calls k _ _ l0 a1 t294 _ ?side1 ?side2 A3.out).mono ?_); (case side1 => repeat (first | exact HR0.out | (with_reducible refine Kd.C_alloc ?_ _) | (with_reducible refine Kd.C_drewN ?_ _) | (with_reducible refine Kd.C_drew ?_))); (case side2 => exact HC0.out); rintro e w' ⟨rfl, ⟨nd, rfl⟩⟩; refine ⟨_, rfl, ?_⟩))
  go_ret
  exact ⟨bkF, bkD⟩
/-! ### shape_Size: function 65 -/
def shape_Size.l0 : Nat → Int → List Int → Int → Int → Option (Int × Int)
  | 0, _, _, _, _ => none
  | k + 1, x4, x20, x21, x22 => if x22 < x21 then (if 0 ≤ x22 then (if x22 < (x20.length : Int) then (if x4 = 0 then (none) else (if (rd x20 x22) > (wrap64 (Int.tdiv (4096 : Int) x4)) then (some (0, 8)) else (shape_Size.l0 k (wrap64 (x4 * (rd x20 x22))) x20 x21 (wrap64 (x22 + 1))))) else (none)) else (none)) else (some (x4, 0))
def shape_Size.f (k : Nat) (l0 : List Int) : Option (Int × Int) := if (l0.length : Int) > 3 then (some (0, 3)) else ((Hd.cf25.f l0).bind fun t295 => (if t295 = true then (some (0, 5)) else ((Hd.cf26.f l0).bind fun t296 => (if t296 = true then (some (0, 8)) else ((slices_Contains_int_int.f k l0 0).bind fun t297 => (if t297 = true then (some (0, 0)) else (shape_Size.l0 k 1 l0 (l0.length : Int) 0)))))))
set_option maxHeartbeats 8000000 in
set_option maxRecDepth 100000 in
theorem shape_Size.calls (k : Nat) (A0 : Option Addr) (c0 : Nat) (l0 : List Int) (r1 : Int) (r2 : Int) (w : World) (hr0 : Kd.C (Kd.int .i64) w A0 l0.length l0) (hc0 : l0.length ≤ c0) (h : shape_Size.f k l0 = some (r1, r2)) :
    Calls Tryz.prog 65 #[.slice A0 l0.length c0] w fun e w' => e = .returned (.tuple #[.int .i64 r1, .int .i64 r2]) ∧ Drawn0 w w' := by
  have HR0 := Aside0.mk hr0
  have HC0 := Aside0.mk hc0
  clear hr0 hc0
  have H : (if (l0.length : Int) > 3 then (some (0, 3)) else ((Hd.cf25.f l0).bind fun t295 => (if t295 = true then (some (0, 5)) else ((Hd.cf26.f l0).bind fun t296 => (if t296 = true then (some (0, 8)) else ((slices_Contains_int_int.f k l0 0).bind fun t297 => (if t297 = true then (some (0, 0)) else (shape_Size.l0 k 1 l0 (l0.length : Int) 0)))))))) = some (r1, r2) := h
  clear h
  refine iteE H ?_ ?_ <;> clear H <;> intro c2 H
  · have c2b0 : decide (3 < (l0.length : Int)) = true := decide_eq_true c2
    have c2b1 : decide (3 < l0.length) = true := decide_eq_true (by omega)
    clear c2
    simp only [Option.some.injEq, Prod.mk.injEq] at H
    obtain ⟨rfl, rfl⟩ := H
    go_enter Tryz.func65, Tryz.ntmps65
    go_wp2
    go_ret2
    exact ⟨bkF, bkD⟩
  · have c2b0 : decide (3 < (l0.length : Int)) = false := decide_eq_false c2
    have c2b1 : decide (3 < l0.length) = false := decide_eq_false (by omega)
    clear c2
    refine bnd H ?_; clear H; intro t295 A3 H
    refine iteB H ?_ ?_ <;> clear H <;> rintro rfl H
    · simp only [Option.some.injEq, Prod.mk.injEq] at H
      obtain ⟨rfl, rfl⟩ := H
      go_enter Tryz.func65, Tryz.ntmps65
      go_wp2_with (first | ((with_reducible refine gate_callee (f := 126) rfl ?_); refine goesL_ (some 13) rfl rfl Tryz.func126 (by kernel_rfl) rfl #[.slice A0 l0.length c0, .func (.func 127) #[] #[]] rfl bkA ?_; (with_reducible refine (Hd.cf25.calls _ _ l0 true _ ?side1 ?side2 A3.out).mono ?_); (case side1 => repeat (first | exact HR0.out | (with_reducible refine Kd.C_alloc ?_ _) | (with_reducible refine Kd.C_drewN ?_ _) | (with_reducible refine Kd.C_drew ?_))); (case side2 => exact HC0.out); rintro e w' ⟨rfl, ⟨nd, rfl⟩⟩; refine ⟨_, rfl, ?_⟩))
      go_ret2
      exact ⟨bkF, bkD⟩
    · refine bnd H ?_; clear H; intro t296 A5 H
      refine iteB H ?_ ?_ <;> clear H <;> rintro rfl H
      · simp only [Option.some.injEq, Prod.mk.injEq] at H
        obtain ⟨rfl, rfl⟩ := H
        go_enter Tryz.func65, Tryz.ntmps65
        go_wp2_with (first | ((with_reducible refine gate_callee (f := 126) rfl ?_); refine goesL_ (some 13) rfl rfl Tryz.func126 (by kernel_rfl) rfl #[.slice A0 l0.length c0, .func (.func 127) #[] #[]] rfl bkA ?_; (with_reducible refine (Hd.cf25.calls _ _ l0 false _ ?side1 ?side2 A3.out).mono ?_); (case side1 => repeat (first | exact HR0.out | (with_reducible refine Kd.C_alloc ?_ _) | (with_reducible refine Kd.C_drewN ?_ _) | (with_reducible refine Kd.C_drew ?_))); (case side2 => exact HC0.out); rintro e w' ⟨rfl, ⟨nd, rfl⟩⟩; refine ⟨_, rfl, ?_⟩) | ((with_reducible refine gate_callee (f := 126) rfl ?_); refine goesL_ (some 16) rfl rfl Tryz.func126 (by kernel_rfl) rfl #[.slice A0 l0.length c0, .func (.func 128) #[] #[]] rfl bkA ?_; (with_reducible refine (Hd.cf26.calls _ _ l0 true _ ?side1 ?side2 A5.out).mono ?_); (case side1 => repeat (first | exact HR0.out | (with_reducible refine Kd.C_alloc ?_ _) | (with_reducible refine Kd.C_drewN ?_ _) | (with_reducible refine Kd.C_drew ?_))); (case side2 => exact HC0.out); rintro e w' ⟨rfl, ⟨nd, rfl⟩⟩; refine ⟨_, rfl, ?_⟩))
        go_ret2
        exact ⟨bkF, bkD⟩
      · refine bnd H ?_; clear H; intro t297 A7 H
        refine iteB H ?_ ?_ <;> clear H <;> rintro rfl H
        · simp only [Option.some.injEq, Prod.mk.injEq] at H
          obtain ⟨rfl, rfl⟩ := H
          go_enter Tryz.func65, Tryz.ntmps65
          go_wp2_with (first | ((with_reducible refine gate_callee (f := 126) rfl ?_); refine goesL_ (some 13) rfl rfl Tryz.func126 (by kernel_rfl) rfl #[.slice A0 l0.length c0, .func (.func 127) #[] #[]] rfl bkA ?_; (with_reducible refine (Hd.cf25.calls _ _ l0 false _ ?side1 ?side2 A3.out).mono ?_); (case side1 => repeat (first | exact HR0.out | (with_reducible refine Kd.C_alloc ?_ _) | (with_reducible refine Kd.C_drewN ?_ _) | (with_reducible refine Kd.C_drew ?_))); (case side2 => exact HC0.out); rintro e w' ⟨rfl, ⟨nd, rfl⟩⟩; refine ⟨_, rfl, ?_⟩) | ((with_reducible refine gate_callee (f := 126) rfl ?_); refine goesL_ (some 16) rfl rfl Tryz.func126 (by kernel_rfl) rfl #[.slice A0 l0.length c0, .func (.func 128) #[] #[]] rfl bkA ?_; (with_reducible refine (Hd.cf26.calls _ _ l0 false _ ?side1 ?side2 A5.out).mono ?_); (case side1 => repeat (first | exact HR0.out | (with_reducible refine Kd.C_alloc ?_ _) | (with_reducible refine Kd.C_drewN ?_ _) | (with_reducible refine Kd.C_drew ?_))); (case side2 => exact HC0.out); rintro e w' ⟨rfl, ⟨nd, rfl⟩⟩; refine ⟨_, rfl, ?_⟩) | ((with_reducible refine gate_callee (f := 129) rfl ?_); refine goesL_ (some 19) rfl rfl Tryz.func129 (by kernel_rfl) rfl #[.slice A0 l0.length c0, .int .i64 0] rfl bkA ?_; (with_reducible refine (slices_Contains_int_int.calls k _ _ l0 0 true _ ?side1 ?side2 A7.out).mono ?_); (case side1 => repeat (first | exact HR0.out | (with_reducible refine Kd.C_alloc ?_ _) | (with_reducible refine Kd.C_drewN ?_ _) | (with_reducible refine Kd.C_drew ?_))); (case side2 => exact HC0.out); rintro e w' ⟨rfl, ⟨nd, rfl⟩⟩; refine ⟨_, rfl, ?_⟩))
          go_ret2
          exact ⟨bkF, bkD⟩
        · have H' := Aside0.mk H
          clear H
          go_enter Tryz.func65, Tryz.ntmps65
          go_wp2_with (first | ((with_reducible refine gate_callee (f := 126) rfl ?_); refine goesL_ (some 13) rfl rfl Tryz.func126 (by kernel_rfl) rfl #[.slice A0 l0.length c0, .func (.func 127) #[] #[]] rfl bkA ?_; (with_reducible refine (Hd.cf25.calls _ _ l0 false _ ?side1 ?side2 A3.out).mono ?_); (case side1 => repeat (first | exact HR0.out | (with_reducible refine Kd.C_alloc ?_ _) | (with_reducible refine Kd.C_drewN ?_ _) | (with_reducible refine Kd.C_drew ?_))); (case side2 => exact HC0.out); rintro e w' ⟨rfl, ⟨nd, rfl⟩⟩; refine ⟨_, rfl, ?_⟩) | ((with_reducible refine gate_callee (f := 126) rfl ?_); refine goesL_ (some 16) rfl rfl Tryz.func126 (by kernel_rfl) rfl #[.slice A0 l0.length c0, .func (.func 128) #[] #[]] rfl bkA ?_; (with_reducible refine (Hd.cf26.calls _ _ l0 false _ ?side1 ?side2 A5.out).mono ?_); (case side1 => repeat (first | exact HR0.out | (with_reducible refine Kd.C_alloc ?_ _) | (with_reducible refine Kd.C_drewN ?_ _) | (with_reducible refine Kd.C_drew ?_))); (case side2 => exact HC0.out); rintro e w' ⟨rfl, ⟨nd, rfl⟩⟩; refine ⟨_, rfl, ?_⟩) | ((with_reducible refine gate_callee (f := 129) rfl ?_); refine goesL_ (some 19) rfl rfl Tryz.func129 (by kernel_rfl) rfl #[.slice A0 l0.length c0, .int .i64 0] rfl bkA ?_; (with_reducible refine (slices_Contains_int_int.calls k _ _ l0 0 false _ ?side1 ?side2 A7.out).mono ?_); (case side1 => repeat (first | exact HR0.out | (with_reducible refine Kd.C_alloc ?_ _) | (with_reducible refine Kd.C_drewN ?_ _) | (with_reducible refine Kd.C_drew ?_))); (case side2 => exact HC0.out); rintro e w' ⟨rfl, ⟨nd, rfl⟩⟩; refine ⟨_, rfl, ?_⟩))
          go_loopg [4, 22] k (fun kq v4 v22 w' => ∃ (x4_1 : Int) (x22_1 : Int), v4 = .int .i64 x4_1 ∧ v22 = .int .i64 x22_1 ∧ Aside0 (shape_Size.l0 kq x4_1 l0 (l0.length : Int) x22_1 = some (r1, r2)) ∧ Aside0 (kq ≤ k) ∧ Drawn0 w w')
          case atStart => exact ⟨(1), (0), bkF, bkF, H', ⟨Nat.le_refl _⟩, bkD⟩
          case round =>
            clear H'
            try clear c1
            try clear c2
            try clear c2b0
            try clear c2b1
            try clear p2
            try clear c4
            try clear c6
            try clear c8
            obtain ⟨x4_1, x22_1, rfl, rfl, HA, HK1, ⟨m1, rfl⟩⟩ := hrel
            cases gk with
            | zero => exact absurd HA.out (by simp [shape_Size.l0])
            | succ k1 =>
              have H := HA.out
              clear HA
              simp only [shape_Size.l0] at H
              refine iteE H ?_ ?_ <;> clear H <;> intro c9 H
              · have c9b0 : decide (x22_1 < (l0.length : Int)) = true := decide_eq_true c9
                clear c9
                refine iteE H ?_ ?_ <;> clear H <;> intro c10 H
                · have c10b0 : decide (0 ≤ x22_1) = true := decide_eq_true c10
                  clear c10
                  refine iteE H ?_ ?_ <;> clear H <;> intro c11 H
                  · have c11b0 : decide (x22_1 < (l0.length : Int)) = true := decide_eq_true c11
                    clear c11
                    refine iteE H ?_ ?_ <;> clear H <;> intro c12 H
                    · exact absurd H (by simp)
                    · have c12b0 : (x4_1 == 0) = false := beq_eq_false_iff_ne.mpr c12
                      have c12b1 : (x4_1 != 0) = true := bne_iff_ne.mpr c12
                      refine iteE H ?_ ?_ <;> clear H <;> intro c13 H
                      · have c13b0 : decide ((wrap64 (Int.tdiv (4096 : Int) x4_1)) < (rd l0 x22_1)) = true := decide_eq_true c13
                        clear c13
                        simp only [Option.some.injEq, Prod.mk.injEq] at H
                        obtain ⟨rfl, rfl⟩ := H
                        have p298 : 0 ≤ (x22_1 : Int) := of_decide_eq_true (by first | (with_reducible assumption) | assumption)
                        have q298 : x22_1 < (l0.length : Int) := of_decide_eq_true (by first | (with_reducible assumption) | assumption)
                        obtain ⟨ad298, e298, hx298_0⟩ := Kd.at_int HR0.out x22_1 p298 q298
                        cases e298
                        replace p298 := eq_true p298
                        replace q298 := eq_true q298
                        go_wp2
                        go_ret2
                        exact ⟨bkF, bkD⟩
                      · have c13b0 : decide ((wrap64 (Int.tdiv (4096 : Int) x4_1)) < (rd l0 x22_1)) = false := decide_eq_false c13
                        clear c13
                        have H' := Aside0.mk H
                        clear H
                        have p298 : 0 ≤ (x22_1 : Int) := of_decide_eq_true (by first | (with_reducible assumption) | assumption)
                        have q298 : x22_1 < (l0.length : Int) := of_decide_eq_true (by first | (with_reducible assumption) | assumption)
                        obtain ⟨ad298, e298, hx298_0⟩ := Kd.at_int HR0.out x22_1 p298 q298
                        cases e298
                        replace p298 := eq_true p298
                        replace q298 := eq_true q298
                        go_wp2
                        go_roundg k1
                        case measure => have := HK1.out; omega
                        case rel => exact ⟨(wrap64 (x4_1 * (rd l0 x22_1))), (wrap64 (x22_1 + 1)), bkF, bkF, H', ⟨by have := HK1.out; omega⟩, bkD⟩
                  · exact absurd H (by simp)
                · exact absurd H (by simp)
              · have c9b0 : decide (x22_1 < (l0.length : Int)) = false := decide_eq_false c9
                clear c9
                simp only [Option.some.injEq, Prod.mk.injEq] at H
                obtain ⟨rfl, rfl⟩ := H
                go_wp2
                go_ret2
                exact ⟨bkF, bkD⟩
/-! ### shape_May: function 125 -/
def shape_May.f (k : Nat) (l0 : List Int) : Option (Bool) := (shape_Size.f k l0).bind fun bt299 => (some (bt299.2 == 0))
set_option maxHeartbeats 8000000 in
set_option maxRecDepth 100000 in
theorem shape_May.calls (k : Nat) (A0 : Option Addr) (c0 : Nat) (l0 : List Int) (r : Bool) (w : World) (hr0 : Kd.C (Kd.int .i64) w A0 l0.length l0) (hc0 : l0.length ≤ c0) (h : shape_May.f k l0 = some r) :
    Calls Tryz.prog 125 #[.slice A0 l0.length c0] w fun e w' => e = .returned (.bool r) ∧ Drawn0 w w' := by
  have HR0 := Aside0.mk hr0
  have HC0 := Aside0.mk hc0
  clear hr0 hc0
  have H : ((shape_Size.f k l0).bind fun bt299 => (some (bt299.2 == 0))) = some r := h
  clear h
  refine bnd2 H ?_; clear H; intro t299 t300 A2 H; try dsimp only at H
  obtain rfl := Option.some.inj H
  go_enter Tryz.func125, Tryz.ntmps125
  go_wp2_with (first | ((with_reducible refine gate_callee (f := 65) rfl ?_); refine goesL_ (some 7) rfl rfl Tryz.func65 (by kernel_rfl) rfl #[.slice A0 l0.length c0] rfl bkA ?_; (with_reducible refine (shape_Size.calls k _ _ l0 t299 t300 _ ?side1 ?side2 A2.out).mono ?_); (case side1 => repeat (first | exact HR0.out | (with_reducible refine Kd.C_alloc ?_ _) | (with_reducible refine Kd.C_drewN ?_ _) | (with_reducible refine Kd.C_drew ?_))); (case side2 => exact HC0.out); rintro e w' ⟨rfl, ⟨nd, rfl⟩⟩; refine ⟨_, rfl, ?_⟩))
  go_ret
  exact ⟨bkF, bkD⟩
/-! ### slices_Equal_int_int: function 135 -/
def slices_Equal_int_int.l0 : Nat → List Int → List Int → Int → Int → Option (Bool)
  | 0, _, _, _, _ => none
  | k + 1, x0, x1, x12, x13 => if x13 < x12 then (if 0 ≤ x13 then (if x13 < (x0.length : Int) then (if x13 < (x1.length : Int) then (if (rd x0 x13) = (rd x1 x13) then (slices_Equal_int_int.l0 k x0 x1 x12 (wrap64 (x13 + 1))) else (some false)) else (none)) else (none)) else (none)) else (some true)
def slices_Equal_int_int.f (k : Nat) (l0 : List Int) (l1 : List Int) : Option (Bool) := if (l0.length : Int) = (l1.length : Int) then (slices_Equal_int_int.l0 k l0 l1 (l0.length : Int) 0) else (some false)
set_option maxHeartbeats 8000000 in
set_option maxRecDepth 100000 in
theorem slices_Equal_int_int.calls (k : Nat) (A0 : Option Addr) (c0 : Nat) (l0 : List Int) (A1 : Option Addr) (c1 : Nat) (l1 : List Int) (r : Bool) (w : World) (hr0 : Kd.C (Kd.int .i64) w A0 l0.length l0) (hc0 : l0.length ≤ c0) (hr1 : Kd.C (Kd.int .i64) w A1 l1.length l1) (hc1 : l1.length ≤ c1) (h : slices_Equal_int_int.f k l0 l1 = some r) :
    Calls Tryz.prog 135 #[.slice A0 l0.length c0, .slice A1 l1.length c1] w fun e w' => e = .returned (.bool r) ∧ Drawn0 w w' := by
  have HR0 := Aside0.mk hr0
  have HC0 := Aside0.mk hc0
  clear hr0 hc0
  have HR1 := Aside0.mk hr1
  have HC1 := Aside0.mk hc1
  clear hr1 hc1
  have H : (if (l0.length : Int) = (l1.length : Int) then (slices_Equal_int_int.l0 k l0 l1 (l0.length : Int) 0) else (some false)) = some r := h
  clear h
  refine iteE H ?_ ?_ <;> clear H <;> intro c3 H
  · have c3b0 : ((l0.length : Int) == (l1.length : Int)) = true := beq_iff_eq.mpr c3
    have c3b1 : ((l0.length : Int) != (l1.length : Int)) = false := bne_eq_false_iff_eq.mpr c3
    have c3b2 : (l0.length == l1.length) = true := by first | simpa using c3 | (simp at c3 ⊢; omega)
    clear c3
    have H' := Aside0.mk H
    clear H
    go_enter Tryz.func135, Tryz.ntmps135
    go_wp2
    repeat (go_quiet (fail); try go_wp2)
    go_loopg [13] k (fun kq v13 w' => ∃ (x13_1 : Int), v13 = .int .i64 x13_1 ∧ Aside0 (slices_Equal_int_int.l0 kq l0 l1 (l0.length : Int) x13_1 = some r) ∧ Aside0 (kq ≤ k) ∧ Drawn0 w w')
    case atStart => exact ⟨(0), bkF, H', ⟨Nat.le_refl _⟩, bkD⟩
    case round =>
      clear H'
      try clear c1
      try clear p2
      try clear c3
      try clear c3b0
      try clear c3b1
      try clear c3b2
      obtain ⟨x13_1, rfl, HA, HK1, ⟨m1, rfl⟩⟩ := hrel
      cases gk with
      | zero => exact absurd HA.out (by simp [slices_Equal_int_int.l0])
      | succ k1 =>
        have H := HA.out
        clear HA
        simp only [slices_Equal_int_int.l0] at H
        refine iteE H ?_ ?_ <;> clear H <;> intro c4 H
        · have c4b0 : decide (x13_1 < (l0.length : Int)) = true := decide_eq_true c4
          clear c4
          refine iteE H ?_ ?_ <;> clear H <;> intro c5 H
          · have c5b0 : decide (0 ≤ x13_1) = true := decide_eq_true c5
            clear c5
            refine iteE H ?_ ?_ <;> clear H <;> intro c6 H
            · have c6b0 : decide (x13_1 < (l0.length : Int)) = true := decide_eq_true c6
              clear c6
              refine iteE H ?_ ?_ <;> clear H <;> intro c7 H
              · have c7b0 : decide (x13_1 < (l1.length : Int)) = true := decide_eq_true c7
                clear c7
                refine iteE H ?_ ?_ <;> clear H <;> intro c8 H
                · have c8b0 : ((rd l0 x13_1) == (rd l1 x13_1)) = true := beq_iff_eq.mpr c8
                  have c8b1 : ((rd l0 x13_1) != (rd l1 x13_1)) = false := bne_eq_false_iff_eq.mpr c8
                  clear c8
                  have H' := Aside0.mk H
                  clear H
                  have p301 : 0 ≤ (x13_1 : Int) := of_decide_eq_true (by first | (with_reducible assumption) | assumption)
                  have q301 : x13_1 < (l0.length : Int) := of_decide_eq_true (by first | (with_reducible assumption) | assumption)
                  obtain ⟨ad301, e301, hx301_0⟩ := Kd.at_int HR0.out x13_1 p301 q301
                  cases e301
                  replace p301 := eq_true p301
                  replace q301 := eq_true q301
                  have p302 : 0 ≤ (x13_1 : Int) := of_decide_eq_true (by first | (with_reducible assumption) | assumption)
                  have q302 : x13_1 < (l1.length : Int) := of_decide_eq_true (by first | (with_reducible assumption) | assumption)
                  obtain ⟨ad302, e302, hx302_0⟩ := Kd.at_int HR1.out x13_1 p302 q302
                  cases e302
                  replace p302 := eq_true p302
                  replace q302 := eq_true q302
                  go_wp2
                  repeat (go_quiet (fail); try go_wp2)
                  go_roundg k1
                  case measure => have := HK1.out; omega
                  case rel => exact ⟨(wrap64 (x13_1 + 1)), bkF, H', ⟨by have := HK1.out; omega⟩, bkD⟩
                · have c8b0 : ((rd l0 x13_1) == (rd l1 x13_1)) = false := beq_eq_false_iff_ne.mpr c8
                  have c8b1 : ((rd l0 x13_1) != (rd l1 x13_1)) = true := bne_iff_ne.mpr c8
                  obtain rfl := Option.some.inj H
                  have p301 : 0 ≤ (x13_1 : Int) := of_decide_eq_true (by first | (with_reducible assumption) | assumption)
                  have q301 : x13_1 < (l0.length : Int) := of_decide_eq_true (by first | (with_reducible assumption) | assumption)
                  obtain ⟨ad301, e301, hx301_0⟩ := Kd.at_int HR0.out x13_1 p301 q301
                  cases e301
                  replace p301 := eq_true p301
                  replace q301 := eq_true q301
                  have p302 : 0 ≤ (x13_1 : Int) := of_decide_eq_true (by first | (with_reducible assumption) | assumption)
                  have q302 : x13_1 < (l1.length : Int) := of_decide_eq_true (by first | (with_reducible assumption) | assumption)
                  obtain ⟨ad302, e302, hx302_0⟩ := Kd.at_int HR1.out x13_1 p302 q302
                  cases e302
                  replace p302 := eq_true p302
                  replace q302 := eq_true q302
                  go_wp2
                  repeat (go_quiet (fail); try go_wp2)
                  go_ret
                  exact ⟨bkF, bkD⟩
              · exact absurd H (by simp)
            · exact absurd H (by simp)
          · exact absurd H (by simp)
        · have c4b0 : decide (x13_1 < (l0.length : Int)) = false := decide_eq_false c4
          clear c4
          obtain rfl := Option.some.inj H
          go_wp2
          repeat (go_quiet (fail); try go_wp2)
          go_ret
          exact ⟨bkF, bkD⟩
  · have c3b0 : ((l0.length : Int) == (l1.length : Int)) = false := beq_eq_false_iff_ne.mpr c3
    have c3b1 : ((l0.length : Int) != (l1.length : Int)) = true := bne_iff_ne.mpr c3
    have c3b2 : (l0.length == l1.length) = false := by first | simpa using c3 | (simp at c3 ⊢; omega)
    obtain rfl := Option.some.inj H
    go_enter Tryz.func135, Tryz.ntmps135
    go_wp2
    repeat (go_quiet (fail); try go_wp2)
    go_ret
    exact ⟨bkF, bkD⟩
/-! ### shape_Same: function 71 -/
def shape_Same.f (k : Nat) (l0 : List Int) (l1 : List Int) : Option (Bool) := (slices_Equal_int_int.f k l0 l1).bind fun t303 => (some t303)
set_option maxHeartbeats 8000000 in
set_option maxRecDepth 100000 in
theorem shape_Same.calls (k : Nat) (A0 : Option Addr) (c0 : Nat) (l0 : List Int) (A1 : Option Addr) (c1 : Nat) (l1 : List Int) (r : Bool) (w : World) (hr0 : Kd.C (Kd.int .i64) w A0 l0.length l0) (hc0 : l0.length ≤ c0) (hr1 : Kd.C (Kd.int .i64) w A1 l1.length l1) (hc1 : l1.length ≤ c1) (h : shape_Same.f k l0 l1 = some r) :
    Calls Tryz.prog 71 #[.slice A0 l0.length c0, .slice A1 l1.length c1] w fun e w' => e = .returned (.bool r) ∧ Drawn0 w w' := by
  have HR0 := Aside0.mk hr0
  have HC0 := Aside0.mk hc0
  clear hr0 hc0
  have HR1 := Aside0.mk hr1
  have HC1 := Aside0.mk hc1
  clear hr1 hc1
  have H : ((slices_Equal_int_int.f k l0 l1).bind fun t303 => (some t303)) = some r := h
  clear h
  refine bnd H ?_; clear H; intro t303 A3 H
  obtain rfl := Option.some.inj H
  go_enter Tryz.func71, Tryz.ntmps71
  go_wp2_with (first | ((with_reducible refine gate_callee (f := 135) rfl ?_); refine goesL_ (some 7) rfl rfl Tryz.func135 (by kernel_rfl) rfl #[.slice A0 l0.length c0, .slice A1 l1.length c1] rfl bkA ?_; (with_reducible refine (slices_Equal_int_int.calls k _ _ l0 _ _ l1 t303 _ ?side1 ?side2 ?side3 ?side4 A3.out).mono ?_); (case side1 => repeat (first | exact HR0.out | (with_reducible refine Kd.C_alloc ?_ _) | (with_reducible refine Kd.C_drewN ?_ _) | (with_reducible refine Kd.C_drew ?_))); (case side2 => exact HC0.out); (case side3 => repeat (first | exact HR1.out | (with_reducible refine Kd.C_alloc ?_ _) | (with_reducible refine Kd.C_drewN ?_ _) | (with_reducible refine Kd.C_drew ?_))); (case side4 => exact HC1.out); rintro e w' ⟨rfl, ⟨nd, rfl⟩⟩; refine ⟨_, rfl, ?_⟩))
  go_ret
  exact ⟨bkF, bkD⟩
/-! ### shape_Meet: function 76 -/
def shape_Meet.j0 : Nat → List Int → List Int → Bool → Option (List Int × Int)
  | 0, _, _, _ => none
  | k + 1, x0, x1, x6 => if x6 = true then ((Hd.slices_Clone.f x0).bind fun t305 => (some (t305, 0))) else (if (x0.length : Int) = 0 then ((Hd.slices_Clone.f x1).bind fun t308 => (some (t308, 0))) else (some (([] : List Int), 4)))
def shape_Meet.f (k : Nat) (l0 : List Int) (l1 : List Int) : Option (List Int × Int) := (shape_Same.f k l0 l1).bind fun t304 => (if t304 = true then (shape_Meet.j0 k l0 l1 true) else (shape_Meet.j0 k l0 l1 ((l1.length : Int) == 0)))
set_option maxHeartbeats 8000000 in
set_option maxRecDepth 100000 in
theorem shape_Meet.calls (k : Nat) (A0 : Option Addr) (c0 : Nat) (l0 : List Int) (A1 : Option Addr) (c1 : Nat) (l1 : List Int) (r1 : List Int) (r2 : Int) (w : World) (hr0 : Kd.C (Kd.int .i64) w A0 l0.length l0) (hc0 : l0.length ≤ c0) (hr1 : Kd.C (Kd.int .i64) w A1 l1.length l1) (hc1 : l1.length ≤ c1) (h : shape_Meet.f k l0 l1 = some (r1, r2)) :
    Calls Tryz.prog 76 #[.slice A0 l0.length c0, .slice A1 l1.length c1] w fun e w' => ∃ v0_ : Value, e = .returned (.tuple #[v0_, .int .i64 r2]) ∧ Kd.R (Kd.int .i64) 3 w' w.heap.size (fun _ => True) v0_ r1 ∧ Below w.heap.size w w' := by
  have HR0 := Aside0.mk hr0
  have HC0 := Aside0.mk hc0
  clear hr0 hc0
  have HR1 := Aside0.mk hr1
  have HC1 := Aside0.mk hc1
  clear hr1 hc1
  have HB := Aside0.mk (Below.refl w.heap.size w)
  have H : ((shape_Same.f k l0 l1).bind fun t304 => (if t304 = true then (shape_Meet.j0 k l0 l1 true) else (shape_Meet.j0 k l0 l1 ((l1.length : Int) == 0)))) = some (r1, r2) := h
  clear h
  have HC3 := Aside0.mk H
  clear H
  go_enter Tryz.func76, Tryz.ntmps76
  go_upto_region 1 with (fail)
  go_cut [6] (fun v6 wc => ∃ (kq : Nat) (x6_2 : Bool), v6 = .bool x6_2 ∧ Aside0 (shape_Meet.j0 kq l0 l1 x6_2 = some (r1, r2)) ∧ Aside0 (kq ≤ k) ∧ Aside0 (Below w.heap.size w wc))
  case first =>
    have H := HC3.out
    clear HC3
    refine bnd H ?_; clear H; intro t304 A4 H
    go_wp2_with (first | ((with_reducible refine gate_callee (f := 71) rfl ?_); refine goesC Tryz.func71 (some 9) (shape_Same.calls _ _ _ _ _ _ _ _ _ ?side1 ?side2 ?side3 ?side4 A4.out) ?_; (case side1 => repeat (first | exact (Kd.C_below HR0.out HB.out) | (with_reducible refine Kd.C_alloc ?_ _) | (with_reducible refine Kd.C_drewN ?_ _) | (with_reducible refine Kd.C_drew ?_))); (case side2 => exact HC0.out); (case side3 => repeat (first | exact (Kd.C_below HR1.out HB.out) | (with_reducible refine Kd.C_alloc ?_ _) | (with_reducible refine Kd.C_drewN ?_ _) | (with_reducible refine Kd.C_drew ?_))); (case side4 => exact HC1.out); rintro e w' ⟨rfl, ⟨nd, rfl⟩⟩; refine ⟨_, rfl, ?_⟩; refine halt ?_))
    refine ⟨?_⟩
    refine iteB H ?_ ?_ <;> clear H <;> rintro rfl H
    · have H' := Aside0.mk H
      clear H
      go_wp2
      go_meet
      case rel => exact ⟨_, (true), bkF, H', ⟨by first | omega | exact Nat.le_refl _⟩, ⟨bkB⟩⟩
    · have H' := Aside0.mk H
      clear H
      go_wp2
      go_meet
      case rel => exact ⟨_, (((l1.length : Int) == 0)), bkF, H', ⟨by first | omega | exact Nat.le_refl _⟩, ⟨bkB⟩⟩
  case rest =>
    clear HC3
    try clear c1
    try clear p2
    try clear c5
    obtain ⟨kq, x6_2, rfl, HA, HJ2, HB⟩ := hcut
    cases kq with
    | zero => exact absurd HA.out (by simp [shape_Meet.j0])
    | succ kj2 =>
      have H := HA.out
      clear HA
      simp only [shape_Meet.j0] at H
      refine iteB H ?_ ?_ <;> clear H <;> rintro rfl H
      · refine bnd H ?_; clear H; intro t305 A7 H
        go_wp2_with (first | ((with_reducible refine gate_callee (f := 84) rfl ?_); refine goesC (args := #[.slice A0 l0.length c0]) Tryz.func84 (some 16) (Hd.slices_Clone.calls _ _ l0 t305 _ ?side1 ?side2 A7.out) ?_; (case side1 => repeat (first | exact (Kd.C_below HR0.out HB.out) | (with_reducible refine Kd.C_alloc ?_ _) | (with_reducible refine Kd.C_drewN ?_ _) | (with_reducible refine Kd.C_drew ?_))); (case side2 => exact HC0.out); rintro e w8 ⟨v306, rfl, ho0, hb⟩; refine ⟨_, rfl, ?_⟩; have n0_ := Aside0.mk (Kd.R_lower ho0 (below_size bkB)); have HO307 := n0_; clear n0_; replace HB := kS HB hb; (try clear hb); (try clear hb2); (try clear hk); (try clear hi); (try clear ho0); refine halt ?_))
        refine ⟨?_⟩
        simp only [Option.some.injEq, Prod.mk.injEq] at H
        obtain ⟨rfl, rfl⟩ := H
        go_wp2
        go_ret2
        exact ⟨_, by first | rfl | (simp [errW_none, errW_some] <;> rfl) | (simp [*, errW_none, errW_some] <;> rfl), by (with_reducible repeat (first | apply Kd.R_alloc | apply Kd.R_drewN | apply Kd.R_drew)); exact HO307.out, bkB⟩
      · by_cases c9 : (l0.length : Int) = 0
        · rw [if_pos c9] at H
          have c9b0 : ((l0.length : Int) == 0) = true := beq_iff_eq.mpr c9
          have c9b1 : ((l0.length : Int) != 0) = false := bne_eq_false_iff_eq.mpr c9
          clear c9
          refine bnd H ?_; clear H; intro t308 A10 H
          go_wp2_with (first | ((with_reducible refine gate_callee (f := 84) rfl ?_); refine goesC (args := #[.slice A1 l1.length c1]) Tryz.func84 (some 22) (Hd.slices_Clone.calls _ _ l1 t308 _ ?side1 ?side2 A10.out) ?_; (case side1 => repeat (first | exact (Kd.C_below HR1.out HB.out) | (with_reducible refine Kd.C_alloc ?_ _) | (with_reducible refine Kd.C_drewN ?_ _) | (with_reducible refine Kd.C_drew ?_))); (case side2 => exact HC1.out); rintro e w11 ⟨v309, rfl, ho0, hb⟩; refine ⟨_, rfl, ?_⟩; have n0_ := Aside0.mk (Kd.R_lower ho0 (below_size bkB)); have HO310 := n0_; clear n0_; replace HB := kS HB hb; (try clear hb); (try clear hb2); (try clear hk); (try clear hi); (try clear ho0); refine halt ?_))
          refine ⟨?_⟩
          simp only [Option.some.injEq, Prod.mk.injEq] at H
          obtain ⟨rfl, rfl⟩ := H
          go_wp2
          go_ret2
          exact ⟨_, by first | rfl | (simp [errW_none, errW_some] <;> rfl) | (simp [*, errW_none, errW_some] <;> rfl), by (with_reducible repeat (first | apply Kd.R_alloc | apply Kd.R_drewN | apply Kd.R_drew)); exact HO310.out, bkB⟩
        · rw [if_neg c9] at H
          have c9b0 : ((l0.length : Int) == 0) = false := beq_eq_false_iff_ne.mpr c9
          have c9b1 : ((l0.length : Int) != 0) = true := bne_iff_ne.mpr c9
          have c9b2 : ¬ (l0 = []) := fun h_ => c9 (by rw [h_]; rfl)
          simp only [Option.some.injEq, Prod.mk.injEq] at H
          obtain ⟨rfl, rfl⟩ := H
          go_wp2
          go_ret2
          exact ⟨_, by first | rfl | (simp [errW_none, errW_some] <;> rfl) | (simp [*, errW_none, errW_some] <;> rfl), by first | exact Kd.R_nil _ _ _ _ _ | exact Kd.N_nil _ _ _ _ _ | exact Kd.V_nil _ _ _ _ _ | exact Kd.Q_nil _ _ _ _ _ | exact Kd.S_nil _ _ _ _ _, bkB⟩
end Go.Proofs.YtcpaajecppplhaaGreatDoor.K
end
