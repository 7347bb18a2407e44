/- What the law leans on, part 5: declarations of several texts of ours, in their order. -/
import Derived.Test.YtdbheoffkfmcpaaDoorXB2
import Derived.Test.YtdbheoffkfmcpaaDoorXB3
import Derived.Test.YtdbheoffkfmcpaaDoorProg
import Derived.Below
import Derived.Deep.Draws
import Derived.Deep.AppendLies
import Derived.Maps.AppendAt
import Derived.OwnWalk
import Derived.Laws.BytesArg
import Derived.Laws.MakeOwn
import Derived.Laws.OwnMore
import Derived.Deep.OwnRows
import Derived.Tactics
import Derived.Lib.ConvBytes
import Derived.Laws.Slices
import Derived.WalkKit
import Derived.KernelRfl
import Derived.RowKit3
import Derived.Deep.LoopGhost
import Derived.Deep.QuietTactic
import Derived.BigQuiet
import Derived.WideLaws
import Derived.Deep.DeepCutAuto
import Derived.Deep.CutBlock
import Derived.Deep.RegionHeld3
import Derived.Laws.Rows
import Derived.Lib.AppendStr
import Derived.ArgAppend
import Derived.Laws.IdiomCopy
import Derived.OrdersHeld
import Derived.Laws.BitsLemmas
import Derived.RowKit
import Derived.Test.YtdbheoffkfmcpaaDoorXB0
import Derived.Test.YtdbheoffkfmcpaaDoorXB1
section
namespace Go.Proofs.YtdbheoffkfmcpaaDoor.K
open Go.RowKit Go.Proofs.YtdbheoffkfmcpaaDoorW.PrintWords Go.Proofs.YtdbheoffkfmcpaaDoorW.PrintLast Go.Proofs.YtdbheoffkfmcpaaDoorW.PrintMore Go.Proofs.YtdbheoffkfmcpaaDoor.B
attribute [local go_sem] max2_int min2_int max_two min_two max_three min_three max_four min_four
set_option linter.unusedVariables false
set_option linter.unusedSimpArgs false
/-! ### cmp_isNaN_int: function 129 -/
def cmp_isNaN_int.f (a0 : Int) : Option (Bool) := some (a0 != a0)
set_option maxHeartbeats 8000000 in
set_option maxRecDepth 100000 in
theorem cmp_isNaN_int.calls (a0 : Int) (r : Bool) (w : World) (h : cmp_isNaN_int.f a0 = some r) :
    Calls Tryd.prog 129 #[.int .i64 a0] w fun e w' => e = .returned (.bool r) ∧ Drawn0 w w' := by
  have H : (some (a0 != a0)) = some r := h
  clear h
  obtain rfl := Option.some.inj H
  go_enter Tryd.func129, Tryd.ntmps129
  go_wp2
  go_ret
  exact ⟨by first | rfl | (simp; done) | (simp [*]; done), by repeat (first | exact Drawn0.refl _ | apply Drawn0.step)⟩
/-! ### cmp_Compare_int: function 105 -/
def cmp_Compare_int.f (a0 : Int) (a1 : Int) : Option (Int) := (cmp_isNaN_int.f a0).bind fun t160 => ((cmp_isNaN_int.f a1).bind fun t161 => (if t160 = true then (if t161 = true then (some 0) else (some (-1))) else (if t161 = true then (some 1) else (if a0 < a1 then (some (-1)) else (if a0 > a1 then (some 1) else (some 0))))))
set_option maxHeartbeats 8000000 in
set_option maxRecDepth 100000 in
theorem cmp_Compare_int.calls (a0 : Int) (a1 : Int) (r : Int) (w : World) (h : cmp_Compare_int.f a0 a1 = some r) :
    Calls Tryd.prog 105 #[.int .i64 a0, .int .i64 a1] w fun e w' => e = .returned (.int .i64 r) ∧ Drawn0 w w' := by
  have H : ((cmp_isNaN_int.f a0).bind fun t160 => ((cmp_isNaN_int.f a1).bind fun t161 => (if t160 = true then (if t161 = true then (some 0) else (some (-1))) else (if t161 = true then (some 1) else (if a0 < a1 then (some (-1)) else (if a0 > a1 then (some 1) else (some 0))))))) = some r := h
  clear h
  replace H := Option.bind_eq_some_iff.mp H
  obtain ⟨t160, A30, H⟩ := H
  replace H : ((cmp_isNaN_int.f a1).bind fun t161 => (if t160 = true then (if t161 = true then (some 0) else (some (-1))) else (if t161 = true then (some 1) else (if a0 < a1 then (some (-1)) else (if a0 > a1 then (some 1) else (some 0)))))) = some r := H
  have A3 := Aside0.mk A30
  clear A30
  replace H := Option.bind_eq_some_iff.mp H
  obtain ⟨t161, A40, H⟩ := H
  replace H : (if t160 = true then (if t161 = true then (some 0) else (some (-1))) else (if t161 = true then (some 1) else (if a0 < a1 then (some (-1)) else (if a0 > a1 then (some 1) else (some 0))))) = some r := H
  have A4 := Aside0.mk A40
  clear A40
  by_cases c5 : t160 = true
  · subst c5
    have H1 : (if t161 = true then (some 0) else (some (-1))) = some r := by rw [if_pos rfl] at H; exact H
    clear H
    have H := H1
    clear H1
    by_cases c6 : t161 = true
    · subst c6
      have H1 : (some 0) = some r := by rw [if_pos rfl] at H; exact H
      clear H
      have H := H1
      clear H1
      obtain rfl := Option.some.inj H
      go_enter Tryd.func105, Tryd.ntmps105
      go_wp2_with (first | ((with_reducible refine gate_callee (f := 129) rfl ?_); refine goesL_ (some 8) rfl rfl Tryd.func129 (by kernel_rfl) rfl #[.int .i64 a0] rfl (by (try simp only [List.map_toArray, List.map_cons, List.map_nil]); first | done | rfl | (simp only [List.length_drop, List.length_take]; rfl)) ?_; (with_reducible refine (cmp_isNaN_int.calls a0 true _ A3.out).mono ?_); rintro e w' ⟨rfl, ⟨nd, rfl⟩⟩; refine ⟨_, rfl, ?_⟩) | ((with_reducible refine gate_callee (f := 129) rfl ?_); refine goesL_ (some 10) rfl rfl Tryd.func129 (by kernel_rfl) rfl #[.int .i64 a1] rfl (by (try simp only [List.map_toArray, List.map_cons, List.map_nil]); first | done | rfl | (simp only [List.length_drop, List.length_take]; rfl)) ?_; (with_reducible refine (cmp_isNaN_int.calls a1 true _ A4.out).mono ?_); rintro e w' ⟨rfl, ⟨nd, rfl⟩⟩; refine ⟨_, rfl, ?_⟩))
      go_ret
      exact ⟨by first | rfl | (simp; done) | (simp [*]; done), by repeat (first | exact Drawn0.refl _ | apply Drawn0.step)⟩
    · replace c6 := Bool.eq_false_iff.mpr c6
      subst c6
      have H1 : (some (-1)) = some r := by rw [if_neg (show ¬ (false = true) by decide)] at H; exact H
      clear H
      have H := H1
      clear H1
      obtain rfl := Option.some.inj H
      go_enter Tryd.func105, Tryd.ntmps105
      go_wp2_with (first | ((with_reducible refine gate_callee (f := 129) rfl ?_); refine goesL_ (some 8) rfl rfl Tryd.func129 (by kernel_rfl) rfl #[.int .i64 a0] rfl (by (try simp only [List.map_toArray, List.map_cons, List.map_nil]); first | done | rfl | (simp only [List.length_drop, List.length_take]; rfl)) ?_; (with_reducible refine (cmp_isNaN_int.calls a0 true _ A3.out).mono ?_); rintro e w' ⟨rfl, ⟨nd, rfl⟩⟩; refine ⟨_, rfl, ?_⟩) | ((with_reducible refine gate_callee (f := 129) rfl ?_); refine goesL_ (some 10) rfl rfl Tryd.func129 (by kernel_rfl) rfl #[.int .i64 a1] rfl (by (try simp only [List.map_toArray, List.map_cons, List.map_nil]); first | done | rfl | (simp only [List.length_drop, List.length_take]; rfl)) ?_; (with_reducible refine (cmp_isNaN_int.calls a1 false _ A4.out).mono ?_); rintro e w' ⟨rfl, ⟨nd, rfl⟩⟩; refine ⟨_, rfl, ?_⟩))
      go_ret
      exact ⟨by first | rfl | (simp; done) | (simp [*]; done), by repeat (first | exact Drawn0.refl _ | apply Drawn0.step)⟩
  · replace c5 := Bool.eq_false_iff.mpr c5
    subst c5
    have H1 : (if t161 = true then (some 1) else (if a0 < a1 then (some (-1)) else (if a0 > a1 then (some 1) else (some 0)))) = some r := by rw [if_neg (show ¬ (false = true) by decide)] at H; exact H
    clear H
    have H := H1
    clear H1
    by_cases c7 : t161 = true
    · subst c7
      have H1 : (some 1) = some r := by rw [if_pos rfl] at H; exact H
      clear H
      have H := H1
      clear H1
      obtain rfl := Option.some.inj H
      go_enter Tryd.func105, Tryd.ntmps105
      go_wp2_with (first | ((with_reducible refine gate_callee (f := 129) rfl ?_); refine goesL_ (some 8) rfl rfl Tryd.func129 (by kernel_rfl) rfl #[.int .i64 a0] rfl (by (try simp only [List.map_toArray, List.map_cons, List.map_nil]); first | done | rfl | (simp only [List.length_drop, List.length_take]; rfl)) ?_; (with_reducible refine (cmp_isNaN_int.calls a0 false _ A3.out).mono ?_); rintro e w' ⟨rfl, ⟨nd, rfl⟩⟩; refine ⟨_, rfl, ?_⟩) | ((with_reducible refine gate_callee (f := 129) rfl ?_); refine goesL_ (some 10) rfl rfl Tryd.func129 (by kernel_rfl) rfl #[.int .i64 a1] rfl (by (try simp only [List.map_toArray, List.map_cons, List.map_nil]); first | done | rfl | (simp only [List.length_drop, List.length_take]; rfl)) ?_; (with_reducible refine (cmp_isNaN_int.calls a1 true _ A4.out).mono ?_); rintro e w' ⟨rfl, ⟨nd, rfl⟩⟩; refine ⟨_, rfl, ?_⟩))
      go_ret
      exact ⟨by first | rfl | (simp; done) | (simp [*]; done), by repeat (first | exact Drawn0.refl _ | apply Drawn0.step)⟩
    · replace c7 := Bool.eq_false_iff.mpr c7
      subst c7
      have H1 : (if a0 < a1 then (some (-1)) else (if a0 > a1 then (some 1) else (some 0))) = some r := by rw [if_neg (show ¬ (false = true) by decide)] at H; exact H
      clear H
      have H := H1
      clear H1
      by_cases c8 : a0 < a1
      · rw [if_pos c8] at H
        have c8b0 : decide (a0 < a1) = true := decide_eq_true c8
        clear c8
        obtain rfl := Option.some.inj H
        go_enter Tryd.func105, Tryd.ntmps105
        go_wp2_with (first | ((with_reducible refine gate_callee (f := 129) rfl ?_); refine goesL_ (some 8) rfl rfl Tryd.func129 (by kernel_rfl) rfl #[.int .i64 a0] rfl (by (try simp only [List.map_toArray, List.map_cons, List.map_nil]); first | done | rfl | (simp only [List.length_drop, List.length_take]; rfl)) ?_; (with_reducible refine (cmp_isNaN_int.calls a0 false _ A3.out).mono ?_); rintro e w' ⟨rfl, ⟨nd, rfl⟩⟩; refine ⟨_, rfl, ?_⟩) | ((with_reducible refine gate_callee (f := 129) rfl ?_); refine goesL_ (some 10) rfl rfl Tryd.func129 (by kernel_rfl) rfl #[.int .i64 a1] rfl (by (try simp only [List.map_toArray, List.map_cons, List.map_nil]); first | done | rfl | (simp only [List.length_drop, List.length_take]; rfl)) ?_; (with_reducible refine (cmp_isNaN_int.calls a1 false _ A4.out).mono ?_); rintro e w' ⟨rfl, ⟨nd, rfl⟩⟩; refine ⟨_, rfl, ?_⟩))
        go_ret
        exact ⟨by first | rfl | (simp; done) | (simp [*]; done), by repeat (first | exact Drawn0.refl _ | apply Drawn0.step)⟩
      · rw [if_neg c8] at H
        have c8b0 : decide (a0 < a1) = false := decide_eq_false c8
        clear c8
        by_cases c9 : a0 > a1
        · rw [if_pos c9] at H
          have c9b0 : decide (a1 < a0) = true := decide_eq_true c9
          clear c9
          obtain rfl := Option.some.inj H
          go_enter Tryd.func105, Tryd.ntmps105
          go_wp2_with (first | ((with_reducible refine gate_callee (f := 129) rfl ?_); refine goesL_ (some 8) rfl rfl Tryd.func129 (by kernel_rfl) rfl #[.int .i64 a0] rfl (by (try simp only [List.map_toArray, List.map_cons, List.map_nil]); first | done | rfl | (simp only [List.length_drop, List.length_take]; rfl)) ?_; (with_reducible refine (cmp_isNaN_int.calls a0 false _ A3.out).mono ?_); rintro e w' ⟨rfl, ⟨nd, rfl⟩⟩; refine ⟨_, rfl, ?_⟩) | ((with_reducible refine gate_callee (f := 129) rfl ?_); refine goesL_ (some 10) rfl rfl Tryd.func129 (by kernel_rfl) rfl #[.int .i64 a1] rfl (by (try simp only [List.map_toArray, List.map_cons, List.map_nil]); first | done | rfl | (simp only [List.length_drop, List.length_take]; rfl)) ?_; (with_reducible refine (cmp_isNaN_int.calls a1 false _ A4.out).mono ?_); rintro e w' ⟨rfl, ⟨nd, rfl⟩⟩; refine ⟨_, rfl, ?_⟩))
          go_ret
          exact ⟨by first | rfl | (simp; done) | (simp [*]; done), by repeat (first | exact Drawn0.refl _ | apply Drawn0.step)⟩
        · rw [if_neg c9] at H
          have c9b0 : decide (a1 < a0) = false := decide_eq_false c9
          clear c9
          obtain rfl := Option.some.inj H
          go_enter Tryd.func105, Tryd.ntmps105
          go_wp2_with (first | ((with_reducible refine gate_callee (f := 129) rfl ?_); refine goesL_ (some 8) rfl rfl Tryd.func129 (by kernel_rfl) rfl #[.int .i64 a0] rfl (by (try simp only [List.map_toArray, List.map_cons, List.map_nil]); first | done | rfl | (simp only [List.length_drop, List.length_take]; rfl)) ?_; (with_reducible refine (cmp_isNaN_int.calls a0 false _ A3.out).mono ?_); rintro e w' ⟨rfl, ⟨nd, rfl⟩⟩; refine ⟨_, rfl, ?_⟩) | ((with_reducible refine gate_callee (f := 129) rfl ?_); refine goesL_ (some 10) rfl rfl Tryd.func129 (by kernel_rfl) rfl #[.int .i64 a1] rfl (by (try simp only [List.map_toArray, List.map_cons, List.map_nil]); first | done | rfl | (simp only [List.length_drop, List.length_take]; rfl)) ?_; (with_reducible refine (cmp_isNaN_int.calls a1 false _ A4.out).mono ?_); rintro e w' ⟨rfl, ⟨nd, rfl⟩⟩; refine ⟨_, rfl, ?_⟩))
          go_ret
          exact ⟨by first | rfl | (simp; done) | (simp [*]; done), by repeat (first | exact Drawn0.refl _ | apply Drawn0.step)⟩
/-! ### cmp_isNaN_uint64: function 130 -/
def cmp_isNaN_uint64.f (a0 : Int) : Option (Bool) := some (a0 != a0)
set_option maxHeartbeats 8000000 in
set_option maxRecDepth 100000 in
theorem cmp_isNaN_uint64.calls (a0 : Int) (r : Bool) (w : World) (h : cmp_isNaN_uint64.f a0 = some r) :
    Calls Tryd.prog 130 #[.int .u64 a0] w fun e w' => e = .returned (.bool r) ∧ Drawn0 w w' := by
  have H : (some (a0 != a0)) = some r := h
  clear h
  obtain rfl := Option.some.inj H
  go_enter Tryd.func130, Tryd.ntmps130
  go_wp2
  go_ret
  exact ⟨by first | rfl | (simp; done) | (simp [*]; done), by repeat (first | exact Drawn0.refl _ | apply Drawn0.step)⟩
/-! ### cmp_Compare_uint64: function 106 -/
def cmp_Compare_uint64.f (a0 : Int) (a1 : Int) : Option (Int) := (cmp_isNaN_uint64.f a0).bind fun t162 => ((cmp_isNaN_uint64.f a1).bind fun t163 => (if t162 = true then (if t163 = true then (some 0) else (some (-1))) else (if t163 = true then (some 1) else (if a0 < a1 then (some (-1)) else (if a0 > a1 then (some 1) else (some 0))))))
set_option maxHeartbeats 8000000 in
set_option maxRecDepth 100000 in
theorem cmp_Compare_uint64.calls (a0 : Int) (a1 : Int) (r : Int) (w : World) (h : cmp_Compare_uint64.f a0 a1 = some r) :
    Calls Tryd.prog 106 #[.int .u64 a0, .int .u64 a1] w fun e w' => e = .returned (.int .i64 r) ∧ Drawn0 w w' := by
  have H : ((cmp_isNaN_uint64.f a0).bind fun t162 => ((cmp_isNaN_uint64.f a1).bind fun t163 => (if t162 = true then (if t163 = true then (some 0) else (some (-1))) else (if t163 = true then (some 1) else (if a0 < a1 then (some (-1)) else (if a0 > a1 then (some 1) else (some 0))))))) = some r := h
  clear h
  replace H := Option.bind_eq_some_iff.mp H
  obtain ⟨t162, A30, H⟩ := H
  replace H : ((cmp_isNaN_uint64.f a1).bind fun t163 => (if t162 = true then (if t163 = true then (some 0) else (some (-1))) else (if t163 = true then (some 1) else (if a0 < a1 then (some (-1)) else (if a0 > a1 then (some 1) else (some 0)))))) = some r := H
  have A3 := Aside0.mk A30
  clear A30
  replace H := Option.bind_eq_some_iff.mp H
  obtain ⟨t163, A40, H⟩ := H
  replace H : (if t162 = true then (if t163 = true then (some 0) else (some (-1))) else (if t163 = true then (some 1) else (if a0 < a1 then (some (-1)) else (if a0 > a1 then (some 1) else (some 0))))) = some r := H
  have A4 := Aside0.mk A40
  clear A40
  by_cases c5 : t162 = true
  · subst c5
    have H1 : (if t163 = true then (some 0) else (some (-1))) = some r := by rw [if_pos rfl] at H; exact H
    clear H
    have H := H1
    clear H1
    by_cases c6 : t163 = true
    · subst c6
      have H1 : (some 0) = some r := by rw [if_pos rfl] at H; exact H
      clear H
      have H := H1
      clear H1
      obtain rfl := Option.some.inj H
      go_enter Tryd.func106, Tryd.ntmps106
      go_wp2_with (first | ((with_reducible refine gate_callee (f := 130) rfl ?_); refine goesL_ (some 8) rfl rfl Tryd.func130 (by kernel_rfl) rfl #[.int .u64 a0] rfl (by (try simp only [List.map_toArray, List.map_cons, List.map_nil]); first | done | rfl | (simp only [List.length_drop, List.length_take]; rfl)) ?_; (with_reducible refine (cmp_isNaN_uint64.calls a0 true _ A3.out).mono ?_); rintro e w' ⟨rfl, ⟨nd, rfl⟩⟩; refine ⟨_, rfl, ?_⟩) | ((with_reducible refine gate_callee (f := 130) rfl ?_); refine goesL_ (some 10) rfl rfl Tryd.func130 (by kernel_rfl) rfl #[.int .u64 a1] rfl (by (try simp only [List.map_toArray, List.map_cons, List.map_nil]); first | done | rfl | (simp only [List.length_drop, List.length_take]; rfl)) ?_; (with_reducible refine (cmp_isNaN_uint64.calls a1 true _ A4.out).mono ?_); rintro e w' ⟨rfl, ⟨nd, rfl⟩⟩; refine ⟨_, rfl, ?_⟩))
      go_ret
      exact ⟨by first | rfl | (simp; done) | (simp [*]; done), by repeat (first | exact Drawn0.refl _ | apply Drawn0.step)⟩
    · replace c6 := Bool.eq_false_iff.mpr c6
      subst c6
      have H1 : (some (-1)) = some r := by rw [if_neg (show ¬ (false = true) by decide)] at H; exact H
      clear H
      have H := H1
      clear H1
      obtain rfl := Option.some.inj H
      go_enter Tryd.func106, Tryd.ntmps106
      go_wp2_with (first | ((with_reducible refine gate_callee (f := 130) rfl ?_); refine goesL_ (some 8) rfl rfl Tryd.func130 (by kernel_rfl) rfl #[.int .u64 a0] rfl (by (try simp only [List.map_toArray, List.map_cons, List.map_nil]); first | done | rfl | (simp only [List.length_drop, List.length_take]; rfl)) ?_; (with_reducible refine (cmp_isNaN_uint64.calls a0 true _ A3.out).mono ?_); rintro e w' ⟨rfl, ⟨nd, rfl⟩⟩; refine ⟨_, rfl, ?_⟩) | ((with_reducible refine gate_callee (f := 130) rfl ?_); refine goesL_ (some 10) rfl rfl Tryd.func130 (by kernel_rfl) rfl #[.int .u64 a1] rfl (by (try simp only [List.map_toArray, List.map_cons, List.map_nil]); first | done | rfl | (simp only [List.length_drop, List.length_take]; rfl)) ?_; (with_reducible refine (cmp_isNaN_uint64.calls a1 false _ A4.out).mono ?_); rintro e w' ⟨rfl, ⟨nd, rfl⟩⟩; refine ⟨_, rfl, ?_⟩))
      go_ret
      exact ⟨by first | rfl | (simp; done) | (simp [*]; done), by repeat (first | exact Drawn0.refl _ | apply Drawn0.step)⟩
  · replace c5 := Bool.eq_false_iff.mpr c5
    subst c5
    have H1 : (if t163 = true then (some 1) else (if a0 < a1 then (some (-1)) else (if a0 > a1 then (some 1) else (some 0)))) = some r := by rw [if_neg (show ¬ (false = true) by decide)] at H; exact H
    clear H
    have H := H1
    clear H1
    by_cases c7 : t163 = true
    · subst c7
      have H1 : (some 1) = some r := by rw [if_pos rfl] at H; exact H
      clear H
      have H := H1
      clear H1
      obtain rfl := Option.some.inj H
      go_enter Tryd.func106, Tryd.ntmps106
      go_wp2_with (first | ((with_reducible refine gate_callee (f := 130) rfl ?_); refine goesL_ (some 8) rfl rfl Tryd.func130 (by kernel_rfl) rfl #[.int .u64 a0] rfl (by (try simp only [List.map_toArray, List.map_cons, List.map_nil]); first | done | rfl | (simp only [List.length_drop, List.length_take]; rfl)) ?_; (with_reducible refine (cmp_isNaN_uint64.calls a0 false _ A3.out).mono ?_); rintro e w' ⟨rfl, ⟨nd, rfl⟩⟩; refine ⟨_, rfl, ?_⟩) | ((with_reducible refine gate_callee (f := 130) rfl ?_); refine goesL_ (some 10) rfl rfl Tryd.func130 (by kernel_rfl) rfl #[.int .u64 a1] rfl (by (try simp only [List.map_toArray, List.map_cons, List.map_nil]); first | done | rfl | (simp only [List.length_drop, List.length_take]; rfl)) ?_; (with_reducible refine (cmp_isNaN_uint64.calls a1 true _ A4.out).mono ?_); rintro e w' ⟨rfl, ⟨nd, rfl⟩⟩; refine ⟨_, rfl, ?_⟩))
      go_ret
      exact ⟨by first | rfl | (simp; done) | (simp [*]; done), by repeat (first | exact Drawn0.refl _ | apply Drawn0.step)⟩
    · replace c7 := Bool.eq_false_iff.mpr c7
      subst c7
      have H1 : (if a0 < a1 then (some (-1)) else (if a0 > a1 then (some 1) else (some 0))) = some r := by rw [if_neg (show ¬ (false = true) by decide)] at H; exact H
      clear H
      have H := H1
      clear H1
      by_cases c8 : a0 < a1
      · rw [if_pos c8] at H
        have c8b0 : decide (a0 < a1) = true := decide_eq_true c8
        clear c8
        obtain rfl := Option.some.inj H
        go_enter Tryd.func106, Tryd.ntmps106
        go_wp2_with (first | ((with_reducible refine gate_callee (f := 130) rfl ?_); refine goesL_ (some 8) rfl rfl Tryd.func130 (by kernel_rfl) rfl #[.int .u64 a0] rfl (by (try simp only [List.map_toArray, List.map_cons, List.map_nil]); first | done | rfl | (simp only [List.length_drop, List.length_take]; rfl)) ?_; (with_reducible refine (cmp_isNaN_uint64.calls a0 false _ A3.out).mono ?_); rintro e w' ⟨rfl, ⟨nd, rfl⟩⟩; refine ⟨_, rfl, ?_⟩) | ((with_reducible refine gate_callee (f := 130) rfl ?_); refine goesL_ (some 10) rfl rfl Tryd.func130 (by kernel_rfl) rfl #[.int .u64 a1] rfl (by (try simp only [List.map_toArray, List.map_cons, List.map_nil]); first | done | rfl | (simp only [List.length_drop, List.length_take]; rfl)) ?_; (with_reducible refine (cmp_isNaN_uint64.calls a1 false _ A4.out).mono ?_); rintro e w' ⟨rfl, ⟨nd, rfl⟩⟩; refine ⟨_, rfl, ?_⟩))
        go_ret
        exact ⟨by first | rfl | (simp; done) | (simp [*]; done), by repeat (first | exact Drawn0.refl _ | apply Drawn0.step)⟩
      · rw [if_neg c8] at H
        have c8b0 : decide (a0 < a1) = false := decide_eq_false c8
        clear c8
        by_cases c9 : a0 > a1
        · rw [if_pos c9] at H
          have c9b0 : decide (a1 < a0) = true := decide_eq_true c9
          clear c9
          obtain rfl := Option.some.inj H
          go_enter Tryd.func106, Tryd.ntmps106
          go_wp2_with (first | ((with_reducible refine gate_callee (f := 130) rfl ?_); refine goesL_ (some 8) rfl rfl Tryd.func130 (by kernel_rfl) rfl #[.int .u64 a0] rfl (by (try simp only [List.map_toArray, List.map_cons, List.map_nil]); first | done | rfl | (simp only [List.length_drop, List.length_take]; rfl)) ?_; (with_reducible refine (cmp_isNaN_uint64.calls a0 false _ A3.out).mono ?_); rintro e w' ⟨rfl, ⟨nd, rfl⟩⟩; refine ⟨_, rfl, ?_⟩) | ((with_reducible refine gate_callee (f := 130) rfl ?_); refine goesL_ (some 10) rfl rfl Tryd.func130 (by kernel_rfl) rfl #[.int .u64 a1] rfl (by (try simp only [List.map_toArray, List.map_cons, List.map_nil]); first | done | rfl | (simp only [List.length_drop, List.length_take]; rfl)) ?_; (with_reducible refine (cmp_isNaN_uint64.calls a1 false _ A4.out).mono ?_); rintro e w' ⟨rfl, ⟨nd, rfl⟩⟩; refine ⟨_, rfl, ?_⟩))
          go_ret
          exact ⟨by first | rfl | (simp; done) | (simp [*]; done), by repeat (first | exact Drawn0.refl _ | apply Drawn0.step)⟩
        · rw [if_neg c9] at H
          have c9b0 : decide (a1 < a0) = false := decide_eq_false c9
          clear c9
          obtain rfl := Option.some.inj H
          go_enter Tryd.func106, Tryd.ntmps106
          go_wp2_with (first | ((with_reducible refine gate_callee (f := 130) rfl ?_); refine goesL_ (some 8) rfl rfl Tryd.func130 (by kernel_rfl) rfl #[.int .u64 a0] rfl (by (try simp only [List.map_toArray, List.map_cons, List.map_nil]); first | done | rfl | (simp only [List.length_drop, List.length_take]; rfl)) ?_; (with_reducible refine (cmp_isNaN_uint64.calls a0 false _ A3.out).mono ?_); rintro e w' ⟨rfl, ⟨nd, rfl⟩⟩; refine ⟨_, rfl, ?_⟩) | ((with_reducible refine gate_callee (f := 130) rfl ?_); refine goesL_ (some 10) rfl rfl Tryd.func130 (by kernel_rfl) rfl #[.int .u64 a1] rfl (by (try simp only [List.map_toArray, List.map_cons, List.map_nil]); first | done | rfl | (simp only [List.length_drop, List.length_take]; rfl)) ?_; (with_reducible refine (cmp_isNaN_uint64.calls a1 false _ A4.out).mono ?_); rintro e w' ⟨rfl, ⟨nd, rfl⟩⟩; refine ⟨_, rfl, ?_⟩))
          go_ret
          exact ⟨by first | rfl | (simp; done) | (simp [*]; done), by repeat (first | exact Drawn0.refl _ | apply Drawn0.step)⟩
end Go.Proofs.YtdbheoffkfmcpaaDoor.K
end
section
namespace Go.Proofs.YtdbheoffkfmcpaaDoor.K
open Go.RowKit Go.Proofs.YtdbheoffkfmcpaaDoorW.PrintWords Go.Proofs.YtdbheoffkfmcpaaDoorW.PrintLast Go.Proofs.YtdbheoffkfmcpaaDoorW.PrintMore Go.Proofs.YtdbheoffkfmcpaaDoor.B
attribute [local go_sem] max2_int min2_int max_two min_two max_three min_three max_four min_four
set_option linter.unusedVariables false
set_option linter.unusedSimpArgs false
/-! ### width_Fits: function 16 -/
def width_Fits.j0 : Nat → Int → Int → Int → Bool → Option (Bool)
  | 0, _, _, _, _ => none
  | k + 1, x0, x1, x6, x7 => if x7 = true then (some true) else (if x6 = 8 then (if 0 ≤ (wrap64 (x1 - 1)) then (if x0 ≥ (wrap64 (-(shl .i64 1 (wrap64 (x1 - 1))))) then (some (decide (x0 < (shl .i64 1 (wrap64 (x1 - 1)))))) else (some false)) else (none)) else (if x6 = 16 then (if 0 ≤ (wrap64 (x1 - 1)) then (if x0 ≥ (wrap64 (-(shl .i64 1 (wrap64 (x1 - 1))))) then (some (decide (x0 < (shl .i64 1 (wrap64 (x1 - 1)))))) else (some false)) else (none)) else (if x6 = 32 then (if 0 ≤ (wrap64 (x1 - 1)) then (if x0 ≥ (wrap64 (-(shl .i64 1 (wrap64 (x1 - 1))))) then (some (decide (x0 < (shl .i64 1 (wrap64 (x1 - 1)))))) else (some false)) else (none)) else (some false))))
def width_Fits.f (k : Nat) (a0 : Int) (a1 : Int) : Option (Bool) := if a1 = 64 then (width_Fits.j0 k a0 a1 a1 (a1 == 64)) else (width_Fits.j0 k a0 a1 a1 (a1 == 128))
theorem width_Fits.mono_l : ∀ k, (∀ y0 y1 y2 y3, LeO (width_Fits.j0 k y0 y1 y2 y3) (width_Fits.j0 (k + 1) y0 y1 y2 y3))
  | 0 => fun _ _ _ _ r h => by simp [width_Fits.j0] at h
  | k + 1 => by
    have ih0 := width_Fits.mono_l k
    · intro y0 y1 y2 y3
      unfold width_Fits.j0
      repeat' first
      | (with_reducible exact ih0 _ _ _ _)
      | (with_reducible exact LeO.refl _)
      | (with_reducible exact LeO.none _)
      | (with_reducible refine LeO.ite ?_ ?_)
      | (with_reducible refine LeO.bind ?_ (fun _ => ?_))
      | exact ih0 _ _ _ _
      | exact LeO.none _
      | refine LeO.ite ?_ ?_
      | refine LeO.bind ?_ (fun _ => ?_)
theorem width_Fits.mono : ∀ a0 a1 k, LeO (width_Fits.f k a0 a1) (width_Fits.f (k + 1) a0 a1) := by
  intro a0 a1 k
  have ih0 := width_Fits.mono_l k
  unfold width_Fits.f
  repeat' first
      | (with_reducible exact ih0 _ _ _ _)
      | (with_reducible exact LeO.refl _)
      | (with_reducible exact LeO.none _)
      | (with_reducible refine LeO.ite ?_ ?_)
      | (with_reducible refine LeO.bind ?_ (fun _ => ?_))
      | exact ih0 _ _ _ _
      | exact LeO.none _
      | refine LeO.ite ?_ ?_
      | refine LeO.bind ?_ (fun _ => ?_)
set_option maxHeartbeats 8000000 in
set_option maxRecDepth 100000 in
theorem width_Fits.calls (k : Nat) (a0 : Int) (a1 : Int) (r : Bool) (w : World) (h : width_Fits.f k a0 a1 = some r) :
    Calls Tryd.prog 16 #[.int .i64 a0, .int .i64 a1] w fun e w' => e = .returned (.bool r) ∧ Drawn0 w w' := by
  have H : (if a1 = 64 then (width_Fits.j0 k a0 a1 a1 (a1 == 64)) else (width_Fits.j0 k a0 a1 a1 (a1 == 128))) = some r := h
  clear h
  have HC3 := Aside0.mk H
  clear H
  go_enter Tryd.func16, Tryd.ntmps16
  go_upto_if 7 with (fail)
  go_cut [7] (fun v7 wc => ∃ (kq : Nat) (x7_2 : Bool), v7 = .bool x7_2 ∧ Aside0 (width_Fits.j0 kq a0 a1 a1 x7_2 = some r) ∧ Aside0 (kq ≤ k) ∧ Drawn0 w wc)
  case first =>
    have H := HC3.out
    clear HC3
    by_cases c4 : a1 = 64
    · rw [if_pos c4] at H
      have c4b0 : (a1 == 64) = true := beq_iff_eq.mpr c4
      have c4b1 : (a1 != 64) = false := bne_eq_false_iff_eq.mpr c4
      clear c4
      (first | rw [c4b0] | (simp only [i64_w, i32_w]; rw [c4b0]) | skip)
      have H' := Aside0.mk H
      clear H
      go_wp2
      go_meet
      case rel => exact ⟨_, ((a1 == 64)), (by first | rfl | (simp; done) | (simp [*]; done)), H', ⟨by first | omega | exact Nat.le_refl _⟩, by repeat (first | exact Drawn0.refl _ | apply Drawn0.step)⟩
    · rw [if_neg c4] at H
      have c4b0 : (a1 == 64) = false := beq_eq_false_iff_ne.mpr c4
      have c4b1 : (a1 != 64) = true := bne_iff_ne.mpr c4
      (first | rw [c4b0] | (simp only [i64_w, i32_w]; rw [c4b0]) | skip)
      have H' := Aside0.mk H
      clear H
      go_wp2
      go_meet
      case rel => exact ⟨_, ((a1 == 128)), (by first | rfl | (simp; done) | (simp [*]; done)), H', ⟨by first | omega | exact Nat.le_refl _⟩, by repeat (first | exact Drawn0.refl _ | apply Drawn0.step)⟩
  case rest =>
    clear HC3
    try clear c1
    try clear p2
    try clear c4
    try clear c4b0
    try clear c4b1
    obtain ⟨kq, x7_2, rfl, HA, HJ2, ⟨mc2, rfl⟩⟩ := hcut
    cases kq with
    | zero => exact absurd HA.out (by simp [width_Fits.j0])
    | succ kj2 =>
      have H := HA.out
      clear HA
      simp only [width_Fits.j0] at H
      by_cases c5 : x7_2 = true
      · subst c5
        have H1 : (some true) = some r := by rw [if_pos rfl] at H; exact H
        clear H
        have H := H1
        clear H1
        obtain rfl := Option.some.inj H
        go_wp2
        go_ret
        exact ⟨by first | rfl | (simp; done) | (simp [*]; done), by repeat (first | exact Drawn0.refl _ | apply Drawn0.step)⟩
      · replace c5 := Bool.eq_false_iff.mpr c5
        subst c5
        have H1 : (if a1 = 8 then (if 0 ≤ (wrap64 (a1 - 1)) then (if a0 ≥ (wrap64 (-(shl .i64 1 (wrap64 (a1 - 1))))) then (some (decide (a0 < (shl .i64 1 (wrap64 (a1 - 1)))))) else (some false)) else (none)) else (if a1 = 16 then (if 0 ≤ (wrap64 (a1 - 1)) then (if a0 ≥ (wrap64 (-(shl .i64 1 (wrap64 (a1 - 1))))) then (some (decide (a0 < (shl .i64 1 (wrap64 (a1 - 1)))))) else (some false)) else (none)) else (if a1 = 32 then (if 0 ≤ (wrap64 (a1 - 1)) then (if a0 ≥ (wrap64 (-(shl .i64 1 (wrap64 (a1 - 1))))) then (some (decide (a0 < (shl .i64 1 (wrap64 (a1 - 1)))))) else (some false)) else (none)) else (some false)))) = some r := by rw [if_neg (show ¬ (false = true) by decide)] at H; exact H
        clear H
        have H := H1
        clear H1
        by_cases c6 : a1 = 8
        · rw [if_pos c6] at H
          have c6b0 : (a1 == 8) = true := beq_iff_eq.mpr c6
          have c6b1 : (a1 != 8) = false := bne_eq_false_iff_eq.mpr c6
          clear c6
          obtain ⟨ji7, hji7⟩ : ∃ j_ : Int, (wrap64 (a1 - 1)) = j_ := ⟨_, rfl⟩
          replace H : (if 0 ≤ (ji7) then (if a0 ≥ (wrap64 (-(shl .i64 1 (ji7)))) then (some (decide (a0 < (shl .i64 1 (ji7))))) else (some false)) else (none)) = some r := by first | (rw [hji7] at H; exact H) | (simp only [hji7] at H ⊢; exact H)
          have hji7w : (IntKind.i64.wrap (a1 - 1)) = ji7 := (i64_w _).trans hji7
          by_cases c8 : 0 ≤ (ji7)
          · rw [if_pos c8] at H
            have c8b0 := eq_true c8
            have c8b1 : decide (0 ≤ (ji7)) = true := decide_eq_true c8
            clear c8
            obtain ⟨ji9, hji9⟩ : ∃ j_ : Int, (shl .i64 1 (ji7)) = j_ := ⟨_, rfl⟩
            replace H : (if a0 ≥ (wrap64 (-(ji9))) then (some (decide (a0 < (ji9)))) else (some false)) = some r := by first | (rw [hji9] at H; exact H) | (simp only [hji9] at H ⊢; exact H)
            have hji9_ : (IntKind.i64.wrap (1 * 2 ^ min (ji7).toNat 64)) = ji9 := hji9
            have hji9z : (ji7) ≤ 64 → (IntKind.i64.wrap (1 * 2 ^ (ji7).toNat)) = ji9 := shl_small hji9
            have hji9u : (IntKind.i64.wrap (2 ^ min (ji7).toNat 64)) = ji9 := by have h_ := hji9_; rw [Int.one_mul] at h_; exact h_
            have hji9v : (ji7) ≤ 64 → (IntKind.i64.wrap (2 ^ (ji7).toNat)) = ji9 := fun hle_ => by have h_ := hji9z hle_; rw [Int.one_mul] at h_; exact h_
            have hji9y : (wrap64 (1 * 2 ^ min (ji7).toNat 64)) = ji9 := (i64_w _).symm.trans hji9_
            have hji9x : (ji7) ≤ 64 → (wrap64 (1 * 2 ^ (ji7).toNat)) = ji9 := fun h_ => (i64_w _).symm.trans (hji9z h_)
            by_cases c10 : a0 ≥ (wrap64 (-(ji9)))
            · rw [if_pos c10] at H
              have c10b0 : decide ((wrap64 (-(ji9))) ≤ a0) = true := decide_eq_true c10
              clear c10
              obtain rfl := Option.some.inj H
              go_wp2
              go_ret
              exact ⟨by first | rfl | (simp; done) | (simp only [← hji7, ← hji9] <;> (first | rfl | simp)) | (simp [*]; done), by repeat (first | exact Drawn0.refl _ | apply Drawn0.step)⟩
            · rw [if_neg c10] at H
              have c10b0 : decide ((wrap64 (-(ji9))) ≤ a0) = false := decide_eq_false c10
              clear c10
              obtain rfl := Option.some.inj H
              go_wp2
              go_ret
              exact ⟨by first | rfl | (simp; done) | (simp only [← hji7, ← hji9] <;> (first | rfl | simp)) | (simp [*]; done), by repeat (first | exact Drawn0.refl _ | apply Drawn0.step)⟩
          · rw [if_neg c8] at H
            exact absurd H (by simp)
        · rw [if_neg c6] at H
          have c6b0 : (a1 == 8) = false := beq_eq_false_iff_ne.mpr c6
          have c6b1 : (a1 != 8) = true := bne_iff_ne.mpr c6
          by_cases c11 : a1 = 16
          · rw [if_pos c11] at H
            have c11b0 : (a1 == 16) = true := beq_iff_eq.mpr c11
            have c11b1 : (a1 != 16) = false := bne_eq_false_iff_eq.mpr c11
            clear c11
            obtain ⟨ji12, hji12⟩ : ∃ j_ : Int, (wrap64 (a1 - 1)) = j_ := ⟨_, rfl⟩
            replace H : (if 0 ≤ (ji12) then (if a0 ≥ (wrap64 (-(shl .i64 1 (ji12)))) then (some (decide (a0 < (shl .i64 1 (ji12))))) else (some false)) else (none)) = some r := by first | (rw [hji12] at H; exact H) | (simp only [hji12] at H ⊢; exact H)
            have hji12w : (IntKind.i64.wrap (a1 - 1)) = ji12 := (i64_w _).trans hji12
            by_cases c13 : 0 ≤ (ji12)
            · rw [if_pos c13] at H
              have c13b0 := eq_true c13
              have c13b1 : decide (0 ≤ (ji12)) = true := decide_eq_true c13
              clear c13
              obtain ⟨ji14, hji14⟩ : ∃ j_ : Int, (shl .i64 1 (ji12)) = j_ := ⟨_, rfl⟩
              replace H : (if a0 ≥ (wrap64 (-(ji14))) then (some (decide (a0 < (ji14)))) else (some false)) = some r := by first | (rw [hji14] at H; exact H) | (simp only [hji14] at H ⊢; exact H)
              have hji14_ : (IntKind.i64.wrap (1 * 2 ^ min (ji12).toNat 64)) = ji14 := hji14
              have hji14z : (ji12) ≤ 64 → (IntKind.i64.wrap (1 * 2 ^ (ji12).toNat)) = ji14 := shl_small hji14
              have hji14u : (IntKind.i64.wrap (2 ^ min (ji12).toNat 64)) = ji14 := by have h_ := hji14_; rw [Int.one_mul] at h_; exact h_
              have hji14v : (ji12) ≤ 64 → (IntKind.i64.wrap (2 ^ (ji12).toNat)) = ji14 := fun hle_ => by have h_ := hji14z hle_; rw [Int.one_mul] at h_; exact h_
              have hji14y : (wrap64 (1 * 2 ^ min (ji12).toNat 64)) = ji14 := (i64_w _).symm.trans hji14_
              have hji14x : (ji12) ≤ 64 → (wrap64 (1 * 2 ^ (ji12).toNat)) = ji14 := fun h_ => (i64_w _).symm.trans (hji14z h_)
              by_cases c15 : a0 ≥ (wrap64 (-(ji14)))
              · rw [if_pos c15] at H
                have c15b0 : decide ((wrap64 (-(ji14))) ≤ a0) = true := decide_eq_true c15
                clear c15
                obtain rfl := Option.some.inj H
                go_wp2
                go_ret
                exact ⟨by first | rfl | (simp; done) | (simp only [← hji12, ← hji14] <;> (first | rfl | simp)) | (simp [*]; done), by repeat (first | exact Drawn0.refl _ | apply Drawn0.step)⟩
              · rw [if_neg c15] at H
                have c15b0 : decide ((wrap64 (-(ji14))) ≤ a0) = false := decide_eq_false c15
                clear c15
                obtain rfl := Option.some.inj H
                go_wp2
                go_ret
                exact ⟨by first | rfl | (simp; done) | (simp only [← hji12, ← hji14] <;> (first | rfl | simp)) | (simp [*]; done), by repeat (first | exact Drawn0.refl _ | apply Drawn0.step)⟩
            · rw [if_neg c13] at H
              exact absurd H (by simp)
          · rw [if_neg c11] at H
            have c11b0 : (a1 == 16) = false := beq_eq_false_iff_ne.mpr c11
            have c11b1 : (a1 != 16) = true := bne_iff_ne.mpr c11
            by_cases c16 : a1 = 32
            · rw [if_pos c16] at H
              have c16b0 : (a1 == 32) = true := beq_iff_eq.mpr c16
              have c16b1 : (a1 != 32) = false := bne_eq_false_iff_eq.mpr c16
              clear c16
              obtain ⟨ji17, hji17⟩ : ∃ j_ : Int, (wrap64 (a1 - 1)) = j_ := ⟨_, rfl⟩
              replace H : (if 0 ≤ (ji17) then (if a0 ≥ (wrap64 (-(shl .i64 1 (ji17)))) then (some (decide (a0 < (shl .i64 1 (ji17))))) else (some false)) else (none)) = some r := by first | (rw [hji17] at H; exact H) | (simp only [hji17] at H ⊢; exact H)
              have hji17w : (IntKind.i64.wrap (a1 - 1)) = ji17 := (i64_w _).trans hji17
              by_cases c18 : 0 ≤ (ji17)
              · rw [if_pos c18] at H
                have c18b0 := eq_true c18
                have c18b1 : decide (0 ≤ (ji17)) = true := decide_eq_true c18
                clear c18
                obtain ⟨ji19, hji19⟩ : ∃ j_ : Int, (shl .i64 1 (ji17)) = j_ := ⟨_, rfl⟩
                replace H : (if a0 ≥ (wrap64 (-(ji19))) then (some (decide (a0 < (ji19)))) else (some false)) = some r := by first | (rw [hji19] at H; exact H) | (simp only [hji19] at H ⊢; exact H)
                have hji19_ : (IntKind.i64.wrap (1 * 2 ^ min (ji17).toNat 64)) = ji19 := hji19
                have hji19z : (ji17) ≤ 64 → (IntKind.i64.wrap (1 * 2 ^ (ji17).toNat)) = ji19 := shl_small hji19
                have hji19u : (IntKind.i64.wrap (2 ^ min (ji17).toNat 64)) = ji19 := by have h_ := hji19_; rw [Int.one_mul] at h_; exact h_
                have hji19v : (ji17) ≤ 64 → (IntKind.i64.wrap (2 ^ (ji17).toNat)) = ji19 := fun hle_ => by have h_ := hji19z hle_; rw [Int.one_mul] at h_; exact h_
                have hji19y : (wrap64 (1 * 2 ^ min (ji17).toNat 64)) = ji19 := (i64_w _).symm.trans hji19_
                have hji19x : (ji17) ≤ 64 → (wrap64 (1 * 2 ^ (ji17).toNat)) = ji19 := fun h_ => (i64_w _).symm.trans (hji19z h_)
                by_cases c20 : a0 ≥ (wrap64 (-(ji19)))
                · rw [if_pos c20] at H
                  have c20b0 : decide ((wrap64 (-(ji19))) ≤ a0) = true := decide_eq_true c20
                  clear c20
                  obtain rfl := Option.some.inj H
                  go_wp2
                  go_ret
                  exact ⟨by first | rfl | (simp; done) | (simp only [← hji17, ← hji19] <;> (first | rfl | simp)) | (simp [*]; done), by repeat (first | exact Drawn0.refl _ | apply Drawn0.step)⟩
                · rw [if_neg c20] at H
                  have c20b0 : decide ((wrap64 (-(ji19))) ≤ a0) = false := decide_eq_false c20
                  clear c20
                  obtain rfl := Option.some.inj H
                  go_wp2
                  go_ret
                  exact ⟨by first | rfl | (simp; done) | (simp only [← hji17, ← hji19] <;> (first | rfl | simp)) | (simp [*]; done), by repeat (first | exact Drawn0.refl _ | apply Drawn0.step)⟩
              · rw [if_neg c18] at H
                exact absurd H (by simp)
            · rw [if_neg c16] at H
              have c16b0 : (a1 == 32) = false := beq_eq_false_iff_ne.mpr c16
              have c16b1 : (a1 != 32) = true := bne_iff_ne.mpr c16
              obtain rfl := Option.some.inj H
              go_wp2
              go_ret
              exact ⟨by first | rfl | (simp; done) | (simp [*]; done), by repeat (first | exact Drawn0.refl _ | apply Drawn0.step)⟩

-- NOT PRINTED: function 50 (slices_Max_int_int)

-- NOT PRINTED: function 23 (width_Max)
/-! ### width_told: function 42 -/
def width_told.f (k : Nat) (a0 : Int) (a1 : Int) (a2 : Int) (a3 : Bool) (a4 : Int) : Option (Int × Bool) := if a3 = true then (some (0, false)) else ((width_Fits.f k a0 a4).bind fun t165 => (if t165 = true then ((width_Fits.f k a1 a4).bind fun t166 => (if t166 = true then ((width_Fits.f k a2 a4).bind fun t167 => (if t167 = true then (some (a2, true)) else (some (0, false)))) else (some (0, false)))) else (some (0, false))))
theorem width_told.mono : ∀ a0 a1 a2 a3 a4 k, LeO (width_told.f k a0 a1 a2 a3 a4) (width_told.f (k + 1) a0 a1 a2 a3 a4) := by
  intro a0 a1 a2 a3 a4 k
  unfold width_told.f
  repeat' first
      | (with_reducible exact width_Fits.mono _ _ _)
      | (with_reducible exact LeO.refl _)
      | (with_reducible exact LeO.none _)
      | (with_reducible refine LeO.ite ?_ ?_)
      | (with_reducible refine LeO.bind ?_ (fun _ => ?_))
      | exact width_Fits.mono _ _ _
      | exact LeO.none _
      | refine LeO.ite ?_ ?_
      | refine LeO.bind ?_ (fun _ => ?_)
set_option maxHeartbeats 8000000 in
set_option maxRecDepth 100000 in
theorem width_told.calls (k : Nat) (a0 : Int) (a1 : Int) (a2 : Int) (a3 : Bool) (a4 : Int) (r1 : Int) (r2 : Bool) (w : World) (h : width_told.f k a0 a1 a2 a3 a4 = some (r1, r2)) :
    Calls Tryd.prog 42 #[.int .i64 a0, .int .i64 a1, .int .i64 a2, .bool a3, .int .i64 a4] w fun e w' => e = .returned (.tuple #[.int .i64 r1, .bool r2]) ∧ Drawn0 w w' := by
  have H : (if a3 = true then (some (0, false)) else ((width_Fits.f k a0 a4).bind fun t165 => (if t165 = true then ((width_Fits.f k a1 a4).bind fun t166 => (if t166 = true then ((width_Fits.f k a2 a4).bind fun t167 => (if t167 = true then (some (a2, true)) else (some (0, false)))) else (some (0, false)))) else (some (0, false))))) = some (r1, r2) := h
  clear h
  by_cases c6 : a3 = true
  · subst c6
    have H1 : (some (0, false)) = some (r1, r2) := by rw [if_pos rfl] at H; exact H
    clear H
    have H := H1
    clear H1
    simp only [Option.some.injEq, Prod.mk.injEq] at H
    obtain ⟨rfl, rfl⟩ := H
    go_enter Tryd.func42, Tryd.ntmps42
    go_wp2
    go_ret2
    exact ⟨by first | rfl | (simp; done) | (simp [*]; done), by repeat (first | exact Drawn0.refl _ | apply Drawn0.step)⟩
  · replace c6 := Bool.eq_false_iff.mpr c6
    subst c6
    have H1 : ((width_Fits.f k a0 a4).bind fun t165 => (if t165 = true then ((width_Fits.f k a1 a4).bind fun t166 => (if t166 = true then ((width_Fits.f k a2 a4).bind fun t167 => (if t167 = true then (some (a2, true)) else (some (0, false)))) else (some (0, false)))) else (some (0, false)))) = some (r1, r2) := by rw [if_neg (show ¬ (false = true) by decide)] at H; exact H
    clear H
    have H := H1
    clear H1
    replace H := Option.bind_eq_some_iff.mp H
    obtain ⟨t165, A70, H⟩ := H
    replace H : (if t165 = true then ((width_Fits.f k a1 a4).bind fun t166 => (if t166 = true then ((width_Fits.f k a2 a4).bind fun t167 => (if t167 = true then (some (a2, true)) else (some (0, false)))) else (some (0, false)))) else (some (0, false))) = some (r1, r2) := H
    have A7 := Aside0.mk A70
    clear A70
    by_cases c8 : t165 = true
    · subst c8
      have H1 : ((width_Fits.f k a1 a4).bind fun t166 => (if t166 = true then ((width_Fits.f k a2 a4).bind fun t167 => (if t167 = true then (some (a2, true)) else (some (0, false)))) else (some (0, false)))) = some (r1, r2) := by rw [if_pos rfl] at H; exact H
      clear H
      have H := H1
      clear H1
      replace H := Option.bind_eq_some_iff.mp H
      obtain ⟨t166, A90, H⟩ := H
      replace H : (if t166 = true then ((width_Fits.f k a2 a4).bind fun t167 => (if t167 = true then (some (a2, true)) else (some (0, false)))) else (some (0, false))) = some (r1, r2) := H
      have A9 := Aside0.mk A90
      clear A90
      by_cases c10 : t166 = true
      · subst c10
        have H1 : ((width_Fits.f k a2 a4).bind fun t167 => (if t167 = true then (some (a2, true)) else (some (0, false)))) = some (r1, r2) := by rw [if_pos rfl] at H; exact H
        clear H
        have H := H1
        clear H1
        replace H := Option.bind_eq_some_iff.mp H
        obtain ⟨t167, A110, H⟩ := H
        replace H : (if t167 = true then (some (a2, true)) else (some (0, false))) = some (r1, r2) := H
        have A11 := Aside0.mk A110
        clear A110
        by_cases c12 : t167 = true
        · subst c12
          have H1 : (some (a2, true)) = some (r1, r2) := by rw [if_pos rfl] at H; exact H
          clear H
          have H := H1
          clear H1
          simp only [Option.some.injEq, Prod.mk.injEq] at H
          obtain ⟨rfl, rfl⟩ := H
          go_enter Tryd.func42, Tryd.ntmps42
          go_wp2_with (first | (go_at_call 16; (with_reducible refine (width_Fits.calls k a0 a4 true _ A7.out).mono ?_); rintro e w' ⟨rfl, ⟨nd, rfl⟩⟩) | (go_at_call 16; (with_reducible refine (width_Fits.calls k a1 a4 true _ A9.out).mono ?_); rintro e w' ⟨rfl, ⟨nd, rfl⟩⟩) | (go_at_call 16; (with_reducible refine (width_Fits.calls k a2 a4 true _ A11.out).mono ?_); rintro e w' ⟨rfl, ⟨nd, rfl⟩⟩))
          go_ret2
          exact ⟨by first | rfl | (simp; done) | (simp [*]; done), by repeat (first | exact Drawn0.refl _ | apply Drawn0.step)⟩
        · replace c12 := Bool.eq_false_iff.mpr c12
          subst c12
          have H1 : (some (0, false)) = some (r1, r2) := by rw [if_neg (show ¬ (false = true) by decide)] at H; exact H
          clear H
          have H := H1
          clear H1
          simp only [Option.some.injEq, Prod.mk.injEq] at H
          obtain ⟨rfl, rfl⟩ := H
          go_enter Tryd.func42, Tryd.ntmps42
          go_wp2_with (first | (go_at_call 16; (with_reducible refine (width_Fits.calls k a0 a4 true _ A7.out).mono ?_); rintro e w' ⟨rfl, ⟨nd, rfl⟩⟩) | (go_at_call 16; (with_reducible refine (width_Fits.calls k a1 a4 true _ A9.out).mono ?_); rintro e w' ⟨rfl, ⟨nd, rfl⟩⟩) | (go_at_call 16; (with_reducible refine (width_Fits.calls k a2 a4 false _ A11.out).mono ?_); rintro e w' ⟨rfl, ⟨nd, rfl⟩⟩))
          go_ret2
          exact ⟨by first | rfl | (simp; done) | (simp [*]; done), by repeat (first | exact Drawn0.refl _ | apply Drawn0.step)⟩
      · replace c10 := Bool.eq_false_iff.mpr c10
        subst c10
        have H1 : (some (0, false)) = some (r1, r2) := by rw [if_neg (show ¬ (false = true) by decide)] at H; exact H
        clear H
        have H := H1
        clear H1
        simp only [Option.some.injEq, Prod.mk.injEq] at H
        obtain ⟨rfl, rfl⟩ := H
        go_enter Tryd.func42, Tryd.ntmps42
        go_wp2_with (first | (go_at_call 16; (with_reducible refine (width_Fits.calls k a0 a4 true _ A7.out).mono ?_); rintro e w' ⟨rfl, ⟨nd, rfl⟩⟩) | (go_at_call 16; (with_reducible refine (width_Fits.calls k a1 a4 false _ A9.out).mono ?_); rintro e w' ⟨rfl, ⟨nd, rfl⟩⟩))
        go_ret2
        exact ⟨by first | rfl | (simp; done) | (simp [*]; done), by repeat (first | exact Drawn0.refl _ | apply Drawn0.step)⟩
    · replace c8 := Bool.eq_false_iff.mpr c8
      subst c8
      have H1 : (some (0, false)) = some (r1, r2) := by rw [if_neg (show ¬ (false = true) by decide)] at H; exact H
      clear H
      have H := H1
      clear H1
      simp only [Option.some.injEq, Prod.mk.injEq] at H
      obtain ⟨rfl, rfl⟩ := H
      go_enter Tryd.func42, Tryd.ntmps42
      go_wp2_with (first | (go_at_call 16; (with_reducible refine (width_Fits.calls k a0 a4 false _ A7.out).mono ?_); rintro e w' ⟨rfl, ⟨nd, rfl⟩⟩))
      go_ret2
      exact ⟨by first | rfl | (simp; done) | (simp [*]; done), by repeat (first | exact Drawn0.refl _ | apply Drawn0.step)⟩
/-! ### width_Add: function 17 -/
def width_Add.f (k : Nat) (a0 : Int) (a1 : Int) (a2 : Int) : Option (Int × Bool) := (width_told.f k a0 a1 (wrap64 (a0 + a1)) ((decide ((wrap64 (a0 + a1)) > a0)) != (decide (a1 > 0))) a2).bind fun bt168 => (some (bt168.1, bt168.2))
theorem width_Add.mono : ∀ a0 a1 a2 k, LeO (width_Add.f k a0 a1 a2) (width_Add.f (k + 1) a0 a1 a2) := by
  intro a0 a1 a2 k
  unfold width_Add.f
  repeat' first
      | (with_reducible exact width_told.mono _ _ _ _ _ _)
      | (with_reducible exact LeO.refl _)
      | (with_reducible exact LeO.none _)
      | (with_reducible refine LeO.ite ?_ ?_)
      | (with_reducible refine LeO.bind ?_ (fun _ => ?_))
      | exact width_told.mono _ _ _ _ _ _
      | exact LeO.none _
      | refine LeO.ite ?_ ?_
      | refine LeO.bind ?_ (fun _ => ?_)
set_option maxHeartbeats 8000000 in
set_option maxRecDepth 100000 in
theorem width_Add.calls (k : Nat) (a0 : Int) (a1 : Int) (a2 : Int) (r1 : Int) (r2 : Bool) (w : World) (h : width_Add.f k a0 a1 a2 = some (r1, r2)) :
    Calls Tryd.prog 17 #[.int .i64 a0, .int .i64 a1, .int .i64 a2] w fun e w' => e = .returned (.tuple #[.int .i64 r1, .bool r2]) ∧ Drawn0 w w' := by
  have H : ((width_told.f k a0 a1 (wrap64 (a0 + a1)) ((decide ((wrap64 (a0 + a1)) > a0)) != (decide (a1 > 0))) a2).bind fun bt168 => (some (bt168.1, bt168.2))) = some (r1, r2) := h
  clear h
  replace H := Option.bind_eq_some_iff.mp H
  obtain ⟨⟨t168, t169⟩, A40, H⟩ := H
  replace H : (some (t168, t169)) = some (r1, r2) := H
  have A4 := Aside0.mk A40
  clear A40
  simp only [Option.some.injEq, Prod.mk.injEq] at H
  obtain ⟨rfl, rfl⟩ := H
  go_enter Tryd.func17, Tryd.ntmps17
  go_wp2_with (first | ((with_reducible refine gate_callee (f := 42) rfl ?_); refine goesL_ (some 22) rfl rfl Tryd.func42 (by kernel_rfl) rfl #[.int .i64 a0, .int .i64 a1, .int .i64 (wrap64 (a0 + a1)), .bool ((decide ((wrap64 (a0 + a1)) > a0)) != (decide (a1 > 0))), .int .i64 a2] rfl (by (try simp only [List.map_toArray, List.map_cons, List.map_nil]); first | done | rfl | (simp only [List.length_drop, List.length_take]; rfl)) ?_; (with_reducible refine (width_told.calls k a0 a1 (wrap64 (a0 + a1)) ((decide ((wrap64 (a0 + a1)) > a0)) != (decide (a1 > 0))) a2 t168 t169 _ A4.out).mono ?_); rintro e w' ⟨rfl, ⟨nd, rfl⟩⟩; refine ⟨_, rfl, ?_⟩))
  go_ret2
  exact ⟨by first | rfl | (simp; done) | (simp [*]; done), by repeat (first | exact Drawn0.refl _ | apply Drawn0.step)⟩
/-! ### width_Sub: function 19 -/
def width_Sub.f (k : Nat) (a0 : Int) (a1 : Int) (a2 : Int) : Option (Int × Bool) := (width_told.f k a0 a1 (wrap64 (a0 - a1)) ((decide ((wrap64 (a0 - a1)) < a0)) != (decide (a1 > 0))) a2).bind fun bt170 => (some (bt170.1, bt170.2))
theorem width_Sub.mono : ∀ a0 a1 a2 k, LeO (width_Sub.f k a0 a1 a2) (width_Sub.f (k + 1) a0 a1 a2) := by
  intro a0 a1 a2 k
  unfold width_Sub.f
  repeat' first
      | (with_reducible exact width_told.mono _ _ _ _ _ _)
      | (with_reducible exact LeO.refl _)
      | (with_reducible exact LeO.none _)
      | (with_reducible refine LeO.ite ?_ ?_)
      | (with_reducible refine LeO.bind ?_ (fun _ => ?_))
      | exact width_told.mono _ _ _ _ _ _
      | exact LeO.none _
      | refine LeO.ite ?_ ?_
      | refine LeO.bind ?_ (fun _ => ?_)
set_option maxHeartbeats 8000000 in
set_option maxRecDepth 100000 in
theorem width_Sub.calls (k : Nat) (a0 : Int) (a1 : Int) (a2 : Int) (r1 : Int) (r2 : Bool) (w : World) (h : width_Sub.f k a0 a1 a2 = some (r1, r2)) :
    Calls Tryd.prog 19 #[.int .i64 a0, .int .i64 a1, .int .i64 a2] w fun e w' => e = .returned (.tuple #[.int .i64 r1, .bool r2]) ∧ Drawn0 w w' := by
  have H : ((width_told.f k a0 a1 (wrap64 (a0 - a1)) ((decide ((wrap64 (a0 - a1)) < a0)) != (decide (a1 > 0))) a2).bind fun bt170 => (some (bt170.1, bt170.2))) = some (r1, r2) := h
  clear h
  replace H := Option.bind_eq_some_iff.mp H
  obtain ⟨⟨t170, t171⟩, A40, H⟩ := H
  replace H : (some (t170, t171)) = some (r1, r2) := H
  have A4 := Aside0.mk A40
  clear A40
  simp only [Option.some.injEq, Prod.mk.injEq] at H
  obtain ⟨rfl, rfl⟩ := H
  go_enter Tryd.func19, Tryd.ntmps19
  go_wp2_with (first | ((with_reducible refine gate_callee (f := 42) rfl ?_); refine goesL_ (some 22) rfl rfl Tryd.func42 (by kernel_rfl) rfl #[.int .i64 a0, .int .i64 a1, .int .i64 (wrap64 (a0 - a1)), .bool ((decide ((wrap64 (a0 - a1)) < a0)) != (decide (a1 > 0))), .int .i64 a2] rfl (by (try simp only [List.map_toArray, List.map_cons, List.map_nil]); first | done | rfl | (simp only [List.length_drop, List.length_take]; rfl)) ?_; (with_reducible refine (width_told.calls k a0 a1 (wrap64 (a0 - a1)) ((decide ((wrap64 (a0 - a1)) < a0)) != (decide (a1 > 0))) a2 t170 t171 _ A4.out).mono ?_); rintro e w' ⟨rfl, ⟨nd, rfl⟩⟩; refine ⟨_, rfl, ?_⟩))
  go_ret2
  exact ⟨by first | rfl | (simp; done) | (simp [*]; done), by repeat (first | exact Drawn0.refl _ | apply Drawn0.step)⟩
end Go.Proofs.YtdbheoffkfmcpaaDoor.K
end
section
/- slices.Max of ints, num.Int, width.Of and width.Next: what they tell, at every input within the bounds that each f names. -/
namespace Go.Proofs.YtdbheoffkfmcpaaDoor.Hd
open Go.RowKit Go.Proofs.YtdbheoffkfmcpaaDoorW.PrintWords Go.Proofs.YtdbheoffkfmcpaaDoorW.PrintLast Go.Proofs.YtdbheoffkfmcpaaDoorW.PrintMore Go.Proofs.YtdbheoffkfmcpaaDoor.B Go.Lib
set_option linter.unusedVariables false
set_option linter.unusedSimpArgs false
/-! ### num.Int -/
def numInt.f (a0 : ByteArray) : Option (Int × Bool) :=
  if a0.size ≤ 281474976710656 then (K.num_May.f a0).bind fun m => if m = true then (match parseIntB 64 a0.data.toList with | .ok v => some (v, true) | _ => some (0, false)) else some (0, false) else none
set_option maxHeartbeats 1000000 in
theorem numInt.calls (a0 : ByteArray) (r1 : Int) (r2 : Bool) (w : World) (hG : GL w) (h : numInt.f a0 = some (r1, r2)) :
    Calls Tryd.prog 38 #[.string a0] w fun e w' => e = .returned (.tuple #[.int .i64 r1, .bool r2]) ∧ Below w.heap.size w w' := by
  unfold numInt.f at h
  split at h
  · rename_i hs
    obtain ⟨m, hm, h⟩ := Option.bind_eq_some_iff.mp h
    have HM := Aside0.mk hm
    clear hm
    cases m with
    | false =>
      simp only [Bool.false_eq_true, if_false, Option.some.injEq, Prod.mk.injEq] at h
      obtain ⟨rfl, rfl⟩ := h
      go_enter Tryd.func38, Tryd.ntmps38
      go_wp2_with (go_at_call 33; refine (K.num_May.calls a0 false _ HM.out).mono ?_; rintro e w' ⟨rfl, hb⟩)
      go_ret2
      exact ⟨rfl, hb⟩
    | true =>
      have H1 : Calls Tryd.prog 38 #[.string a0] w fun e w' => e = .returned (.tuple (match parseIntB 64 a0.data.toList with | .ok v => #[.int .i64 v, .bool true] | _ => #[.int .i64 0, .bool false])) ∧ Below w.heap.size w w' := by
        obtain ⟨q, hq⟩ : ∃ q, q = parseIntB 64 a0.data.toList := ⟨_, rfl⟩
        have HQ := Aside0.mk hq.symm
        rw [← hq]
        clear h hq
        cases q
        · rename_i v
          go_enter Tryd.func38, Tryd.ntmps38
          go_wp2_with (first | (go_at_call 33; refine (K.num_May.calls a0 true _ HM.out).mono ?_; rintro e w1 ⟨rfl, hb⟩) | (go_at_call 65; refine (Tryd.strconv_ParseInt_10_at64_ok a0 (by omega) v HQ.out _).mono ?_; rintro e w2 ⟨rfl, hw⟩))
          have hb2 : Below w.heap.size w w2 := by
            rcases hw with rfl | ⟨t, rfl⟩
            · exact hb
            · exact hb.trans ((bytesWorld_below _ _ _).mono hb.size)
          clear hw
          go_ret2
          exact ⟨rfl, hb2⟩
        · obtain ⟨_, ⟨tp, p, hv⟩, _⟩ := id hG
          have HV : ∀ W, Below w.heap.size w W → W.var? Tryd.prog "strconv.ErrSyntax" = some #[.iface tp p] := fun W hb => var_keep (g := 1) (Nat.le_refl _) (by kernel_rfl) hb hv
          go_enter Tryd.func38, Tryd.ntmps38
          go_wp2_with (first | (go_at_call 33; refine (K.num_May.calls a0 true _ HM.out).mono ?_; rintro e w1 ⟨rfl, hb⟩) | (go_at_call 65; refine (Any.strconv_ParseInt_10_at64_syntax_var Tryd.laysC174 a0 (by omega) HQ.out tp p _ (HV _ hb)).mono ?_; rintro e w2 ⟨N, rfl, _, _, hb2⟩))
          go_ret2
          exact ⟨rfl, hb.trans (hb2.mono hb.size)⟩
        · obtain ⟨_, _, ⟨tp, p, hv⟩⟩ := id hG
          have HV : ∀ W, Below w.heap.size w W → W.var? Tryd.prog "strconv.ErrRange" = some #[.iface tp p] := fun W hb => var_keep (g := 2) (Nat.le_refl _) (by kernel_rfl) hb hv
          go_enter Tryd.func38, Tryd.ntmps38
          go_wp2_with (first | (go_at_call 33; refine (K.num_May.calls a0 true _ HM.out).mono ?_; rintro e w1 ⟨rfl, hb⟩) | (go_at_call 65; refine (Tryd.strconv_ParseInt_10_at64_range_var a0 (by omega) HQ.out tp p _ (HV _ hb)).mono ?_; rintro e w2 ⟨N, rfl, _, _, hb2⟩))
          go_ret2
          exact ⟨rfl, hb.trans (hb2.mono hb.size)⟩
      refine H1.mono ?_
      rintro e w' ⟨rfl, hb⟩
      refine ⟨?_, hb⟩
      simp only [if_true] at h
      revert h
      cases parseIntB 64 a0.data.toList <;> (intro h; simp only [Option.some.injEq, Prod.mk.injEq] at h; obtain ⟨rfl, rfl⟩ := h; rfl)
  · cases h
/-! ### width.Of, width.Next -/
theorem alloc_new (w : World) (o : Obj) : (w.alloc o).heap[w.heap.size]? = some o := by
  show (w.heap.push o)[w.heap.size]? = _
  simp
theorem widths.calls (w : World) : Calls Tryd.prog 40 #[] w fun e w' => e = .returned (.agg #[.int .i64 8, .int .i64 16, .int .i64 32, .int .i64 64, .int .i64 128]) ∧ Below w.heap.size w w' := by
  go_enter Tryd.func40, Tryd.ntmps40
  go_wp2
  refine bodyPost_ret (results_cell_row rfl _ _ w.heap.size 49 #[.int .i64 8, .int .i64 16, .int .i64 32, .int .i64 64, .int .i64 128] (0, 0) _ rfl (alloc_new _ _) Tryd.underlying49 rfl (by kernel_rfl)) rfl ?_
  exact ⟨rfl, (Below.refl _ w).alloc (Nat.le_refl _) _⟩
/-- the width behind another one -/
def nextW (a0 : Int) : Int := if a0 = 8 then 16 else if a0 = 16 then 32 else if a0 = 32 then 64 else 128
def widthNext.f (a0 : Int) : Option Int := some (nextW a0)
theorem idxW (a0 : Int) (h : ¬ (a0 = 8 ∨ a0 = 16 ∨ a0 = 32 ∨ a0 = 64 ∨ a0 = 128)) : idxOf ([8, 16, 32, 64, 128].take 5) a0 = -1 := by
  simp only [not_or] at h
  simp [idxOf, idxFrom, Ne.symm h.1, Ne.symm h.2.1, Ne.symm h.2.2.1, Ne.symm h.2.2.2.1, Ne.symm h.2.2.2.2, h.1, h.2.1, h.2.2.1, h.2.2.2.1, h.2.2.2.2]
theorem arr5_cells (w : World) (t : Nat) (j : Nat) (hj : j < [8, 16, 32, 64, 128].length) : (w.alloc (.cells #[.int .i64 8, .int .i64 16, .int .i64 32, .int .i64 64, .int .i64 128] t)).cell? ⟨w.heap.size, 0 + j, none⟩ = some (.int .i64 ([8, 16, 32, 64, 128].getD j 0)) := by
  match j, hj with
  | 0, _ => simp only [World.cell?, alloc_new]; rfl
  | 1, _ => simp only [World.cell?, alloc_new]; rfl
  | 2, _ => simp only [World.cell?, alloc_new]; rfl
  | 3, _ => simp only [World.cell?, alloc_new]; rfl
  | 4, _ => simp only [World.cell?, alloc_new]; rfl
set_option maxHeartbeats 1000000 in
theorem widthNext_8 (w : World) : Calls Tryd.prog 25 #[.int .i64 8] w fun e w' => e = .returned (.int .i64 16) ∧ Below w.heap.size w w' := by
  have HC : ∀ W : World, Calls Tryd.prog 51 #[.slice (some ⟨W.heap.size, 0, none⟩) 5 5, .int .i64 8] (W.alloc (.cells #[.int .i64 8, .int .i64 16, .int .i64 32, .int .i64 64, .int .i64 128] 49)) fun e w' => e = .returned (.int .i64 (0)) ∧ w' = W.alloc (.cells #[.int .i64 8, .int .i64 16, .int .i64 32, .int .i64 64, .int .i64 128] 49) := fun W => by
    have h0 := Tryd.slices_Index_int W.heap.size 0 5 5 [8, 16, 32, 64, 128] 8 _ (by decide) (by decide) (fun j hj => arr5_cells W 49 j hj)
    rw [show idxOf ([8, 16, 32, 64, 128].take 5) 8 = 0 from by decide] at h0
    exact h0
  go_enter Tryd.func25, Tryd.ntmps25
  go_wp2_with (first | (go_at_call 40; refine (widths.calls _).mono ?_; rintro e w1 ⟨rfl, hb⟩) | (go_at_call 51; refine (HC _).mono ?_; rintro e w2 ⟨rfl, rfl⟩))
  go_ret
  exact ⟨rfl, hb.alloc hb.size _⟩
set_option maxHeartbeats 1000000 in
theorem widthNext_16 (w : World) : Calls Tryd.prog 25 #[.int .i64 16] w fun e w' => e = .returned (.int .i64 32) ∧ Below w.heap.size w w' := by
  have HC : ∀ W : World, Calls Tryd.prog 51 #[.slice (some ⟨W.heap.size, 0, none⟩) 5 5, .int .i64 16] (W.alloc (.cells #[.int .i64 8, .int .i64 16, .int .i64 32, .int .i64 64, .int .i64 128] 49)) fun e w' => e = .returned (.int .i64 (1)) ∧ w' = W.alloc (.cells #[.int .i64 8, .int .i64 16, .int .i64 32, .int .i64 64, .int .i64 128] 49) := fun W => by
    have h0 := Tryd.slices_Index_int W.heap.size 0 5 5 [8, 16, 32, 64, 128] 16 _ (by decide) (by decide) (fun j hj => arr5_cells W 49 j hj)
    rw [show idxOf ([8, 16, 32, 64, 128].take 5) 16 = 1 from by decide] at h0
    exact h0
  go_enter Tryd.func25, Tryd.ntmps25
  go_wp2_with (first | (go_at_call 40; refine (widths.calls _).mono ?_; rintro e w1 ⟨rfl, hb⟩) | (go_at_call 51; refine (HC _).mono ?_; rintro e w2 ⟨rfl, rfl⟩))
  go_ret
  exact ⟨rfl, hb.alloc hb.size _⟩
set_option maxHeartbeats 1000000 in
theorem widthNext_32 (w : World) : Calls Tryd.prog 25 #[.int .i64 32] w fun e w' => e = .returned (.int .i64 64) ∧ Below w.heap.size w w' := by
  have HC : ∀ W : World, Calls Tryd.prog 51 #[.slice (some ⟨W.heap.size, 0, none⟩) 5 5, .int .i64 32] (W.alloc (.cells #[.int .i64 8, .int .i64 16, .int .i64 32, .int .i64 64, .int .i64 128] 49)) fun e w' => e = .returned (.int .i64 (2)) ∧ w' = W.alloc (.cells #[.int .i64 8, .int .i64 16, .int .i64 32, .int .i64 64, .int .i64 128] 49) := fun W => by
    have h0 := Tryd.slices_Index_int W.heap.size 0 5 5 [8, 16, 32, 64, 128] 32 _ (by decide) (by decide) (fun j hj => arr5_cells W 49 j hj)
    rw [show idxOf ([8, 16, 32, 64, 128].take 5) 32 = 2 from by decide] at h0
    exact h0
  go_enter Tryd.func25, Tryd.ntmps25
  go_wp2_with (first | (go_at_call 40; refine (widths.calls _).mono ?_; rintro e w1 ⟨rfl, hb⟩) | (go_at_call 51; refine (HC _).mono ?_; rintro e w2 ⟨rfl, rfl⟩))
  go_ret
  exact ⟨rfl, hb.alloc hb.size _⟩
set_option maxHeartbeats 1000000 in
theorem widthNext_64 (w : World) : Calls Tryd.prog 25 #[.int .i64 64] w fun e w' => e = .returned (.int .i64 128) ∧ Below w.heap.size w w' := by
  have HC : ∀ W : World, Calls Tryd.prog 51 #[.slice (some ⟨W.heap.size, 0, none⟩) 5 5, .int .i64 64] (W.alloc (.cells #[.int .i64 8, .int .i64 16, .int .i64 32, .int .i64 64, .int .i64 128] 49)) fun e w' => e = .returned (.int .i64 (3)) ∧ w' = W.alloc (.cells #[.int .i64 8, .int .i64 16, .int .i64 32, .int .i64 64, .int .i64 128] 49) := fun W => by
    have h0 := Tryd.slices_Index_int W.heap.size 0 5 5 [8, 16, 32, 64, 128] 64 _ (by decide) (by decide) (fun j hj => arr5_cells W 49 j hj)
    rw [show idxOf ([8, 16, 32, 64, 128].take 5) 64 = 3 from by decide] at h0
    exact h0
  go_enter Tryd.func25, Tryd.ntmps25
  go_wp2_with (first | (go_at_call 40; refine (widths.calls _).mono ?_; rintro e w1 ⟨rfl, hb⟩) | (go_at_call 51; refine (HC _).mono ?_; rintro e w2 ⟨rfl, rfl⟩))
  go_ret
  exact ⟨rfl, hb.alloc hb.size _⟩
set_option maxHeartbeats 1000000 in
theorem widthNext_128 (w : World) : Calls Tryd.prog 25 #[.int .i64 128] w fun e w' => e = .returned (.int .i64 128) ∧ Below w.heap.size w w' := by
  have HC : ∀ W : World, Calls Tryd.prog 51 #[.slice (some ⟨W.heap.size, 0, none⟩) 5 5, .int .i64 128] (W.alloc (.cells #[.int .i64 8, .int .i64 16, .int .i64 32, .int .i64 64, .int .i64 128] 49)) fun e w' => e = .returned (.int .i64 (4)) ∧ w' = W.alloc (.cells #[.int .i64 8, .int .i64 16, .int .i64 32, .int .i64 64, .int .i64 128] 49) := fun W => by
    have h0 := Tryd.slices_Index_int W.heap.size 0 5 5 [8, 16, 32, 64, 128] 128 _ (by decide) (by decide) (fun j hj => arr5_cells W 49 j hj)
    rw [show idxOf ([8, 16, 32, 64, 128].take 5) 128 = 4 from by decide] at h0
    exact h0
  go_enter Tryd.func25, Tryd.ntmps25
  go_wp2_with (first | (go_at_call 40; refine (widths.calls _).mono ?_; rintro e w1 ⟨rfl, hb⟩) | (go_at_call 51; refine (HC _).mono ?_; rintro e w2 ⟨rfl, rfl⟩))
  go_ret
  exact ⟨rfl, hb.alloc hb.size _⟩
set_option maxHeartbeats 1000000 in
theorem widthNext_no (a0 : Int) (h : ¬ (a0 = 8 ∨ a0 = 16 ∨ a0 = 32 ∨ a0 = 64 ∨ a0 = 128)) (w : World) : Calls Tryd.prog 25 #[.int .i64 a0] w fun e w' => e = .returned (.int .i64 128) ∧ Below w.heap.size w w' := by
  have HC : ∀ W : World, Calls Tryd.prog 51 #[.slice (some ⟨W.heap.size, 0, none⟩) 5 5, .int .i64 a0] (W.alloc (.cells #[.int .i64 8, .int .i64 16, .int .i64 32, .int .i64 64, .int .i64 128] 49)) fun e w' => e = .returned (.int .i64 (-1)) ∧ w' = W.alloc (.cells #[.int .i64 8, .int .i64 16, .int .i64 32, .int .i64 64, .int .i64 128] 49) := fun W => by
    have h0 := Tryd.slices_Index_int W.heap.size 0 5 5 [8, 16, 32, 64, 128] a0 _ (by decide) (by decide) (fun j hj => arr5_cells W 49 j hj)
    rw [idxW a0 h] at h0
    exact h0
  go_enter Tryd.func25, Tryd.ntmps25
  go_wp2_with (first | (go_at_call 40; refine (widths.calls _).mono ?_; rintro e w1 ⟨rfl, hb⟩) | (go_at_call 51; refine (HC _).mono ?_; rintro e w2 ⟨rfl, rfl⟩))
  go_ret
  exact ⟨rfl, hb.alloc hb.size _⟩
theorem widthNext.calls (a0 : Int) (r : Int) (w : World) (h : widthNext.f a0 = some r) :
    Calls Tryd.prog 25 #[.int .i64 a0] w fun e w' => e = .returned (.int .i64 r) ∧ Below w.heap.size w w' := by
  simp only [widthNext.f, Option.some.injEq] at h
  subst h
  by_cases h : a0 = 8 ∨ a0 = 16 ∨ a0 = 32 ∨ a0 = 64 ∨ a0 = 128
  · rcases h with rfl | rfl | rfl | rfl | rfl
    · exact widthNext_8 w
    · exact widthNext_16 w
    · exact widthNext_32 w
    · exact widthNext_64 w
    · exact widthNext_128 w
  · have h1 := widthNext_no a0 h w
    simp only [not_or] at h
    have h2 : nextW a0 = 128 := by simp [nextW, h.1, h.2.1, h.2.2.1]
    rw [h2]
    exact h1
/-! ### width.Of -/
def fitsW (x w : Int) : Bool := if w = 64 then true else if w = 128 then true else if w = 8 then decide (-128 ≤ x) && decide (x < 128) else if w = 16 then decide (-32768 ≤ x) && decide (x < 32768) else if w = 32 then decide (-2147483648 ≤ x) && decide (x < 2147483648) else false
theorem fits_ev (x w : Int) : K.width_Fits.f 1 x w = some (fitsW x w) := by
  unfold K.width_Fits.f K.width_Fits.j0 fitsW
  by_cases h64 : w = 64
  · subst h64; simp
  by_cases h128 : w = 128
  · subst h128; simp
  by_cases h8 : w = 8
  · subst h8
    have e1 : wrap64 (8 - 1) = 7 := by kernel_rfl
    have e2 : shl .i64 1 7 = 128 := by decide
    have e3 : wrap64 (-128) = -128 := by kernel_rfl
    simp only [e1, e2, e3]
    by_cases h : -128 ≤ x <;> simp [h]
  by_cases h16 : w = 16
  · subst h16
    have e1 : wrap64 (16 - 1) = 15 := by kernel_rfl
    have e2 : shl .i64 1 15 = 32768 := by decide
    have e3 : wrap64 (-32768) = -32768 := by kernel_rfl
    simp only [e1, e2, e3]
    by_cases h : -32768 ≤ x <;> simp [h]
  by_cases h32 : w = 32
  · subst h32
    have e1 : wrap64 (32 - 1) = 31 := by kernel_rfl
    have e2 : shl .i64 1 31 = 2147483648 := by decide
    have e3 : wrap64 (-2147483648) = -2147483648 := by kernel_rfl
    simp only [e1, e2, e3]
    by_cases h : -2147483648 ≤ x <;> simp [h]
  simp [h64, h128, h8, h16, h32]
def leastW (x : Int) : Int := if fitsW x 8 = true then 8 else if fitsW x 16 = true then 16 else if fitsW x 32 = true then 32 else 64
def widthOf.f (a0 : ByteArray) : Option Int := (numInt.f a0).bind fun r => some (if r.2 = true then leastW r.1 else 128)
theorem fits_at (x w : Int) (W : World) (b : Bool) (hb : fitsW x w = b) : Calls Tryd.prog 16 #[.int .i64 x, .int .i64 w] W fun e w' => e = .returned (.bool b) ∧ Drawn0 W w' :=
  K.width_Fits.calls 1 x w b W (hb ▸ fits_ev x w)
theorem idxArr0 (W : World) : (Instr.index 49 (.agg #[.int .i64 8, .int .i64 16, .int .i64 32, .int .i64 64, .int .i64 128]) (.int .i64 0)).run Tryd.prog W = .ok (.int .i64 8) W := by kernel_rfl
theorem idxArr1 (W : World) : (Instr.index 49 (.agg #[.int .i64 8, .int .i64 16, .int .i64 32, .int .i64 64, .int .i64 128]) (.int .i64 1)).run Tryd.prog W = .ok (.int .i64 16) W := by kernel_rfl
theorem idxArr2 (W : World) : (Instr.index 49 (.agg #[.int .i64 8, .int .i64 16, .int .i64 32, .int .i64 64, .int .i64 128]) (.int .i64 2)).run Tryd.prog W = .ok (.int .i64 32) W := by kernel_rfl
theorem idxArr3 (W : World) : (Instr.index 49 (.agg #[.int .i64 8, .int .i64 16, .int .i64 32, .int .i64 64, .int .i64 128]) (.int .i64 3)).run Tryd.prog W = .ok (.int .i64 64) W := by kernel_rfl
theorem idxArr4 (W : World) : (Instr.index 49 (.agg #[.int .i64 8, .int .i64 16, .int .i64 32, .int .i64 64, .int .i64 128]) (.int .i64 4)).run Tryd.prog W = .ok (.int .i64 128) W := by kernel_rfl
attribute [local go_sem high] idxArr0 idxArr1 idxArr2 idxArr3 idxArr4
def widthAt (i : Nat) : Int := [8, 16, 32, 64, 128].getD i 0
set_option maxRecDepth 100000 in
set_option maxHeartbeats 2000000 in
theorem widthOf.calls (a0 : ByteArray) (r : Int) (w : World) (hG : GL w) (h : widthOf.f a0 = some r) :
    Calls Tryd.prog 14 #[.string a0] w fun e w' => e = .returned (.int .i64 r) ∧ Below w.heap.size w w' := by
  obtain ⟨⟨x, ok⟩, hn, h⟩ := Option.bind_eq_some_iff.mp h
  have HN := Aside0.mk hn
  clear hn
  simp only [Option.some.injEq] at h
  cases ok with
  | false =>
    simp only [Bool.false_eq_true, if_false] at h
    subst h
    go_enter Tryd.func14, Tryd.ntmps14
    go_wp2_with (go_at_call 38; refine (numInt.calls a0 x false _ hG HN.out).mono ?_; rintro e w1 ⟨rfl, hb⟩)
    go_ret
    exact ⟨rfl, hb⟩
  | true =>
    simp only [if_true] at h
    have HR := Aside0.mk h
    clear h
    have HF := Aside0.mk (fun (W : World) (u : Int) (b : Bool) (hb : fitsW x u = b) => fits_at x u W b hb)
    have fin : ∀ i : Nat, i < 5 → (∀ j, j < i → fitsW x (widthAt j) = false) → fitsW x (widthAt i) = true → widthAt i = r := by
      intro i hi hno hyes
      rw [← HR.out]
      unfold leastW
      match i, hi with
      | 0, _ => exact (if_pos hyes).symm
      | 1, _ => have h0 := hno 0 (by omega); rw [if_neg (by rw [show (8 : Int) = widthAt 0 from rfl, h0]; decide)]; exact (if_pos hyes).symm
      | 2, _ => have h0 := hno 0 (by omega); have h1 := hno 1 (by omega); rw [if_neg (by rw [show (8 : Int) = widthAt 0 from rfl, h0]; decide), if_neg (by rw [show (16 : Int) = widthAt 1 from rfl, h1]; decide)]; exact (if_pos hyes).symm
      | 3, _ => have h0 := hno 0 (by omega); have h1 := hno 1 (by omega); have h2 := hno 2 (by omega); rw [if_neg (by rw [show (8 : Int) = widthAt 0 from rfl, h0]; decide), if_neg (by rw [show (16 : Int) = widthAt 1 from rfl, h1]; decide), if_neg (by rw [show (32 : Int) = widthAt 2 from rfl, h2]; decide)]; rfl
      | 4, _ => have h3 := hno 3 (by omega); simp [fitsW, widthAt] at h3
    have FIN := Aside0.mk fin
    clear fin
    go_enter Tryd.func14, Tryd.ntmps14
    go_wp2_with (first | (go_at_call 38; refine (numInt.calls a0 x true _ hG HN.out).mono ?_; rintro e w1 ⟨rfl, hb⟩) | (go_at_call 40; refine (widths.calls _).mono ?_; rintro e w2 ⟨rfl, hb2⟩))
    have HB := Aside0.mk (hb.trans (hb2.mono hb.size))
    clear hb hb2
    go_loopw [15] (fun v15 w' => ∃ i : Int, 0 ≤ i ∧ i ≤ 5 ∧ v15 = .int .i64 i ∧ Aside0 (∀ j : Nat, (j : Int) < i → fitsW x (widthAt j) = false) ∧ Aside0 (Below w.heap.size w w')) (fun v15 _ => 5 - (intOf v15).toNat)
    case atStart => exact ⟨0, by omega, by omega, rfl, ⟨fun j hj => by omega⟩, HB⟩
    case round =>
      obtain ⟨i, hi0, hi, rfl, HNo, HB'⟩ := hrel
      have hcs : i = 0 ∨ i = 1 ∨ i = 2 ∨ i = 3 ∨ i = 4 ∨ i = 5 := by omega
      clear hi0 hi
      rcases hcs with rfl | rfl | rfl | rfl | rfl | rfl
      · by_cases hf : fitsW x 8 = true
        · have HY := Aside0.mk hf
          clear hf
          go_wp2_with (go_at_call 16; refine (HF.out _ 8 true HY.out).mono ?_; rintro e w3 ⟨rfl, ⟨nd, rfl⟩⟩)
          go_ret
          refine ⟨?_, pw_below_drewN HB'.out nd⟩
          rw [← FIN.out 0 (by omega) (fun j hj => HNo.out j (by omega)) HY.out]
          rfl
        · have HY := Aside0.mk (Bool.eq_false_iff.mpr hf)
          clear hf
          go_wp2_with (go_at_call 16; refine (HF.out _ 8 false HY.out).mono ?_; rintro e w3 ⟨rfl, ⟨nd, rfl⟩⟩)
          go_roundw
          case rel => exact ⟨1, by omega, by omega, rfl, ⟨fun j hj => by rcases (by omega : (j : Int) < 0 ∨ j = 0) with h | h; exact HNo.out j h; subst h; exact HY.out⟩, ⟨pw_below_drewN HB'.out nd⟩⟩
          case measure => simp [intOf]
      · by_cases hf : fitsW x 16 = true
        · have HY := Aside0.mk hf
          clear hf
          go_wp2_with (go_at_call 16; refine (HF.out _ 16 true HY.out).mono ?_; rintro e w3 ⟨rfl, ⟨nd, rfl⟩⟩)
          go_ret
          refine ⟨?_, pw_below_drewN HB'.out nd⟩
          rw [← FIN.out 1 (by omega) (fun j hj => HNo.out j (by omega)) HY.out]
          rfl
        · have HY := Aside0.mk (Bool.eq_false_iff.mpr hf)
          clear hf
          go_wp2_with (go_at_call 16; refine (HF.out _ 16 false HY.out).mono ?_; rintro e w3 ⟨rfl, ⟨nd, rfl⟩⟩)
          go_roundw
          case rel => exact ⟨2, by omega, by omega, rfl, ⟨fun j hj => by rcases (by omega : (j : Int) < 1 ∨ j = 1) with h | h; exact HNo.out j h; subst h; exact HY.out⟩, ⟨pw_below_drewN HB'.out nd⟩⟩
          case measure => simp [intOf]
      · by_cases hf : fitsW x 32 = true
        · have HY := Aside0.mk hf
          clear hf
          go_wp2_with (go_at_call 16; refine (HF.out _ 32 true HY.out).mono ?_; rintro e w3 ⟨rfl, ⟨nd, rfl⟩⟩)
          go_ret
          refine ⟨?_, pw_below_drewN HB'.out nd⟩
          rw [← FIN.out 2 (by omega) (fun j hj => HNo.out j (by omega)) HY.out]
          rfl
        · have HY := Aside0.mk (Bool.eq_false_iff.mpr hf)
          clear hf
          go_wp2_with (go_at_call 16; refine (HF.out _ 32 false HY.out).mono ?_; rintro e w3 ⟨rfl, ⟨nd, rfl⟩⟩)
          go_roundw
          case rel => exact ⟨3, by omega, by omega, rfl, ⟨fun j hj => by rcases (by omega : (j : Int) < 2 ∨ j = 2) with h | h; exact HNo.out j h; subst h; exact HY.out⟩, ⟨pw_below_drewN HB'.out nd⟩⟩
          case measure => simp [intOf]
      · by_cases hf : fitsW x 64 = true
        · have HY := Aside0.mk hf
          clear hf
          go_wp2_with (go_at_call 16; refine (HF.out _ 64 true HY.out).mono ?_; rintro e w3 ⟨rfl, ⟨nd, rfl⟩⟩)
          go_ret
          refine ⟨?_, pw_below_drewN HB'.out nd⟩
          rw [← FIN.out 3 (by omega) (fun j hj => HNo.out j (by omega)) HY.out]
          rfl
        · have HY := Aside0.mk (Bool.eq_false_iff.mpr hf)
          clear hf
          go_wp2_with (go_at_call 16; refine (HF.out _ 64 false HY.out).mono ?_; rintro e w3 ⟨rfl, ⟨nd, rfl⟩⟩)
          go_roundw
          case rel => exact ⟨4, by omega, by omega, rfl, ⟨fun j hj => by rcases (by omega : (j : Int) < 3 ∨ j = 3) with h | h; exact HNo.out j h; subst h; exact HY.out⟩, ⟨pw_below_drewN HB'.out nd⟩⟩
          case measure => simp [intOf]
      · by_cases hf : fitsW x 128 = true
        · have HY := Aside0.mk hf
          clear hf
          go_wp2_with (go_at_call 16; refine (HF.out _ 128 true HY.out).mono ?_; rintro e w3 ⟨rfl, ⟨nd, rfl⟩⟩)
          go_ret
          refine ⟨?_, pw_below_drewN HB'.out nd⟩
          rw [← FIN.out 4 (by omega) (fun j hj => HNo.out j (by omega)) HY.out]
          rfl
        · have HY := Aside0.mk (Bool.eq_false_iff.mpr hf)
          clear hf
          go_wp2_with (go_at_call 16; refine (HF.out _ 128 false HY.out).mono ?_; rintro e w3 ⟨rfl, ⟨nd, rfl⟩⟩)
          go_roundw
          case rel => exact ⟨5, by omega, by omega, rfl, ⟨fun j hj => by rcases (by omega : (j : Int) < 4 ∨ j = 4) with h | h; exact HNo.out j h; subst h; exact HY.out⟩, ⟨pw_below_drewN HB'.out nd⟩⟩
          case measure => simp [intOf]
      · exact absurd (HNo.out 3 (by omega)) (by simp [fitsW, widthAt])
end Go.Proofs.YtdbheoffkfmcpaaDoor.Hd
end
section
namespace Go.Proofs.YtdbheoffkfmcpaaDoor.LS
open Go.RowKit Go.Proofs.YtdbheoffkfmcpaaDoorW.PrintWords Go.Proofs.YtdbheoffkfmcpaaDoorW.PrintLast Go.Proofs.YtdbheoffkfmcpaaDoorW.PrintMore Go.Proofs.YtdbheoffkfmcpaaDoor.B Go.Proofs.YtdbheoffkfmcpaaDoor.K
attribute [local go_sem] max2_int min2_int max_two min_two max_three min_three max_four min_four
set_option linter.unusedVariables false
set_option linter.unusedSimpArgs false
/-! ### reredoslaw02_shown: function 13 -/
def reredoslaw02_shown.f (k : Nat)  : Option (Bool) := (Go.Proofs.YtdbheoffkfmcpaaDoor.K.width_Add.f k 100 100 8).bind fun bt101 => ((Go.Proofs.YtdbheoffkfmcpaaDoor.K.width_Add.f k 100 100 16).bind fun bt103 => (if bt101.2 = true then (some false) else (if bt103.2 = true then (if bt103.1 = 200 then ((Hd.widthOf.f (⟨#[50, 48, 48]⟩ : ByteArray)).bind fun t105 => (some (t105 == 16))) else (some false)) else (some false))))
theorem reredoslaw02_shown.mono : ∀ k, LeO (reredoslaw02_shown.f k ) (reredoslaw02_shown.f (k + 1) ) := by
  intro  k
  unfold reredoslaw02_shown.f
  repeat' first
      | (with_reducible exact Go.Proofs.YtdbheoffkfmcpaaDoor.K.width_Add.mono _ _ _ _)
      | (with_reducible exact LeO.refl _)
      | (with_reducible exact LeO.none _)
      | (with_reducible refine LeO.ite ?_ ?_)
      | (with_reducible refine LeO.bind ?_ (fun _ => ?_))
      | exact Go.Proofs.YtdbheoffkfmcpaaDoor.K.width_Add.mono _ _ _ _
      | exact LeO.none _
      | refine LeO.ite ?_ ?_
      | refine LeO.bind ?_ (fun _ => ?_)
set_option maxHeartbeats 8000000 in
set_option maxRecDepth 100000 in
theorem reredoslaw02_shown.calls (k : Nat)  (r : Bool) (w : World) (hG : Hd.GL w) (h : reredoslaw02_shown.f k  = some r) :
    Calls Tryd.prog 13 #[] w fun e w' => e = .returned (.bool r) ∧ Below w.heap.size w w' := by
  have HGL := Aside0.mk hG
  clear hG
  have HB := Aside0.mk (Below.refl w.heap.size w)
  have H : ((Go.Proofs.YtdbheoffkfmcpaaDoor.K.width_Add.f k 100 100 8).bind fun bt101 => ((Go.Proofs.YtdbheoffkfmcpaaDoor.K.width_Add.f k 100 100 16).bind fun bt103 => (if bt101.2 = true then (some false) else (if bt103.2 = true then (if bt103.1 = 200 then ((Hd.widthOf.f (⟨#[50, 48, 48]⟩ : ByteArray)).bind fun t105 => (some (t105 == 16))) else (some false)) else (some false))))) = some r := h
  clear h
  replace H := Option.bind_eq_some_iff.mp H
  obtain ⟨⟨t101, t102⟩, A10, H⟩ := H
  replace H : ((Go.Proofs.YtdbheoffkfmcpaaDoor.K.width_Add.f k 100 100 16).bind fun bt103 => (if t102 = true then (some false) else (if bt103.2 = true then (if bt103.1 = 200 then ((Hd.widthOf.f (⟨#[50, 48, 48]⟩ : ByteArray)).bind fun t105 => (some (t105 == 16))) else (some false)) else (some false)))) = some r := H
  have A1 := Aside0.mk A10
  clear A10
  replace H := Option.bind_eq_some_iff.mp H
  obtain ⟨⟨t103, t104⟩, A20, H⟩ := H
  replace H : (if t102 = true then (some false) else (if t104 = true then (if t103 = 200 then ((Hd.widthOf.f (⟨#[50, 48, 48]⟩ : ByteArray)).bind fun t105 => (some (t105 == 16))) else (some false)) else (some false))) = some r := H
  have A2 := Aside0.mk A20
  clear A20
  by_cases c3 : t102 = true
  · subst c3
    have H1 : (some false) = some r := by rw [if_pos rfl] at H; exact H
    clear H
    have H := H1
    clear H1
    obtain rfl := Option.some.inj H
    go_enter Tryd.func13, Tryd.ntmps13
    go_wp2_with (first | ((with_reducible refine gate_callee (f := 17) rfl ?_); refine goesL_ (some 6) rfl rfl Tryd.func17 (by kernel_rfl) rfl #[.int .i64 100, .int .i64 100, .int .i64 8] rfl (by (try simp only [List.map_toArray, List.map_cons, List.map_nil]); first | done | rfl | (simp only [List.length_drop, List.length_take]; rfl)) ?_; (with_reducible refine (Go.Proofs.YtdbheoffkfmcpaaDoor.K.width_Add.calls k 100 100 8 t101 true _ A1.out).mono ?_); rintro e w' ⟨rfl, ⟨nd, rfl⟩⟩; refine ⟨_, rfl, ?_⟩) | ((with_reducible refine gate_callee (f := 17) rfl ?_); refine goesL_ (some 10) rfl rfl Tryd.func17 (by kernel_rfl) rfl #[.int .i64 100, .int .i64 100, .int .i64 16] rfl (by (try simp only [List.map_toArray, List.map_cons, List.map_nil]); first | done | rfl | (simp only [List.length_drop, List.length_take]; rfl)) ?_; (with_reducible refine (Go.Proofs.YtdbheoffkfmcpaaDoor.K.width_Add.calls k 100 100 16 t103 t104 _ A2.out).mono ?_); rintro e w' ⟨rfl, ⟨nd, rfl⟩⟩; refine ⟨_, rfl, ?_⟩))
    go_ret
    exact ⟨by first | rfl | (simp [errW_none, errW_some] <;> rfl) | (simp [*, errW_none, errW_some] <;> rfl), by repeat (first | (with_reducible first | exact HB.out | apply below_alloc | apply pw_below_drewN | apply below_drew1) | exact HB.out)⟩
  · replace c3 := Bool.eq_false_iff.mpr c3
    subst c3
    have H1 : (if t104 = true then (if t103 = 200 then ((Hd.widthOf.f (⟨#[50, 48, 48]⟩ : ByteArray)).bind fun t105 => (some (t105 == 16))) else (some false)) else (some false)) = some r := by rw [if_neg (show ¬ (false = true) by decide)] at H; exact H
    clear H
    have H := H1
    clear H1
    by_cases c4 : t104 = true
    · subst c4
      have H1 : (if t103 = 200 then ((Hd.widthOf.f (⟨#[50, 48, 48]⟩ : ByteArray)).bind fun t105 => (some (t105 == 16))) else (some false)) = some r := by rw [if_pos rfl] at H; exact H
      clear H
      have H := H1
      clear H1
      by_cases c5 : t103 = 200
      · rw [if_pos c5] at H
        have c5b0 : (t103 == 200) = true := beq_iff_eq.mpr c5
        have c5b1 : (t103 != 200) = false := bne_eq_false_iff_eq.mpr c5
        clear c5
        replace H := Option.bind_eq_some_iff.mp H
        obtain ⟨t105, A60, H⟩ := H
        replace H : (some (t105 == 16)) = some r := H
        have A6 := Aside0.mk A60
        clear A60
        obtain rfl := Option.some.inj H
        go_enter Tryd.func13, Tryd.ntmps13
        go_wp2_with (first | ((with_reducible refine gate_callee (f := 17) rfl ?_); refine goesL_ (some 6) rfl rfl Tryd.func17 (by kernel_rfl) rfl #[.int .i64 100, .int .i64 100, .int .i64 8] rfl (by (try simp only [List.map_toArray, List.map_cons, List.map_nil]); first | done | rfl | (simp only [List.length_drop, List.length_take]; rfl)) ?_; (with_reducible refine (Go.Proofs.YtdbheoffkfmcpaaDoor.K.width_Add.calls k 100 100 8 t101 false _ A1.out).mono ?_); rintro e w' ⟨rfl, ⟨nd, rfl⟩⟩; refine ⟨_, rfl, ?_⟩) | ((with_reducible refine gate_callee (f := 17) rfl ?_); refine goesL_ (some 10) rfl rfl Tryd.func17 (by kernel_rfl) rfl #[.int .i64 100, .int .i64 100, .int .i64 16] rfl (by (try simp only [List.map_toArray, List.map_cons, List.map_nil]); first | done | rfl | (simp only [List.length_drop, List.length_take]; rfl)) ?_; (with_reducible refine (Go.Proofs.YtdbheoffkfmcpaaDoor.K.width_Add.calls k 100 100 16 t103 true _ A2.out).mono ?_); rintro e w' ⟨rfl, ⟨nd, rfl⟩⟩; refine ⟨_, rfl, ?_⟩) | (go_at_call 14; (with_reducible refine (Hd.widthOf.calls (⟨#[50, 48, 48]⟩ : ByteArray) t105 _ ?side1 A6.out).mono ?_); (case side1 => refine Hd.GL.below HGL.out ?_; repeat (first | (with_reducible first | exact HB.out | apply below_alloc | apply pw_below_drewN | apply below_drew1) | exact HB.out)); rintro e w7 ⟨rfl, hb⟩; have n0_ := Aside0.mk (below_step (by repeat (first | (with_reducible first | exact HB.out | apply below_alloc | apply pw_below_drewN | apply below_drew1) | exact HB.out)) hb); clear HB; have HB := n0_; clear n0_; (try clear hb); (try clear hb2); (try clear hk); (try clear hi)))
        go_ret
        exact ⟨by first | rfl | (simp [errW_none, errW_some] <;> rfl) | (simp [*, errW_none, errW_some] <;> rfl), by repeat (first | (with_reducible first | exact HB.out | apply below_alloc | apply pw_below_drewN | apply below_drew1) | exact HB.out)⟩
      · rw [if_neg c5] at H
        have c5b0 : (t103 == 200) = false := beq_eq_false_iff_ne.mpr c5
        have c5b1 : (t103 != 200) = true := bne_iff_ne.mpr c5
        obtain rfl := Option.some.inj H
        go_enter Tryd.func13, Tryd.ntmps13
        go_wp2_with (first | ((with_reducible refine gate_callee (f := 17) rfl ?_); refine goesL_ (some 6) rfl rfl Tryd.func17 (by kernel_rfl) rfl #[.int .i64 100, .int .i64 100, .int .i64 8] rfl (by (try simp only [List.map_toArray, List.map_cons, List.map_nil]); first | done | rfl | (simp only [List.length_drop, List.length_take]; rfl)) ?_; (with_reducible refine (Go.Proofs.YtdbheoffkfmcpaaDoor.K.width_Add.calls k 100 100 8 t101 false _ A1.out).mono ?_); rintro e w' ⟨rfl, ⟨nd, rfl⟩⟩; refine ⟨_, rfl, ?_⟩) | ((with_reducible refine gate_callee (f := 17) rfl ?_); refine goesL_ (some 10) rfl rfl Tryd.func17 (by kernel_rfl) rfl #[.int .i64 100, .int .i64 100, .int .i64 16] rfl (by (try simp only [List.map_toArray, List.map_cons, List.map_nil]); first | done | rfl | (simp only [List.length_drop, List.length_take]; rfl)) ?_; (with_reducible refine (Go.Proofs.YtdbheoffkfmcpaaDoor.K.width_Add.calls k 100 100 16 t103 true _ A2.out).mono ?_); rintro e w' ⟨rfl, ⟨nd, rfl⟩⟩; refine ⟨_, rfl, ?_⟩))
        go_ret
        exact ⟨by first | rfl | (simp [errW_none, errW_some] <;> rfl) | (simp [*, errW_none, errW_some] <;> rfl), by repeat (first | (with_reducible first | exact HB.out | apply below_alloc | apply pw_below_drewN | apply below_drew1) | exact HB.out)⟩
    · replace c4 := Bool.eq_false_iff.mpr c4
      subst c4
      have H1 : (some false) = some r := by rw [if_neg (show ¬ (false = true) by decide)] at H; exact H
      clear H
      have H := H1
      clear H1
      obtain rfl := Option.some.inj H
      go_enter Tryd.func13, Tryd.ntmps13
      go_wp2_with (first | ((with_reducible refine gate_callee (f := 17) rfl ?_); refine goesL_ (some 6) rfl rfl Tryd.func17 (by kernel_rfl) rfl #[.int .i64 100, .int .i64 100, .int .i64 8] rfl (by (try simp only [List.map_toArray, List.map_cons, List.map_nil]); first | done | rfl | (simp only [List.length_drop, List.length_take]; rfl)) ?_; (with_reducible refine (Go.Proofs.YtdbheoffkfmcpaaDoor.K.width_Add.calls k 100 100 8 t101 false _ A1.out).mono ?_); rintro e w' ⟨rfl, ⟨nd, rfl⟩⟩; refine ⟨_, rfl, ?_⟩) | ((with_reducible refine gate_callee (f := 17) rfl ?_); refine goesL_ (some 10) rfl rfl Tryd.func17 (by kernel_rfl) rfl #[.int .i64 100, .int .i64 100, .int .i64 16] rfl (by (try simp only [List.map_toArray, List.map_cons, List.map_nil]); first | done | rfl | (simp only [List.length_drop, List.length_take]; rfl)) ?_; (with_reducible refine (Go.Proofs.YtdbheoffkfmcpaaDoor.K.width_Add.calls k 100 100 16 t103 false _ A2.out).mono ?_); rintro e w' ⟨rfl, ⟨nd, rfl⟩⟩; refine ⟨_, rfl, ?_⟩))
      go_ret
      exact ⟨by first | rfl | (simp [errW_none, errW_some] <;> rfl) | (simp [*, errW_none, errW_some] <;> rfl), by repeat (first | (with_reducible first | exact HB.out | apply below_alloc | apply pw_below_drewN | apply below_drew1) | exact HB.out)⟩
end Go.Proofs.YtdbheoffkfmcpaaDoor.LS
end
