/- What the law leans on, part 12: declarations of several texts of ours, in their order. -/
import Derived.Test.YtaidmohjnbibiaaGreatDoorXE7
import Derived.Test.YtaidmohjnbibiaaGreatDoorXE10
section
namespace Go.Proofs.YtaidmohjnbibiaaGreatDoor.K
open Go.RowKit Go.Proofs.YtaidmohjnbibiaaGreatDoorW.PrintWords Go.Proofs.YtaidmohjnbibiaaGreatDoorW.PrintLast Go.Proofs.YtaidmohjnbibiaaGreatDoorW.PrintMore Go.Proofs.YtaidmohjnbibiaaGreatDoor.B
attribute [local go_sem] max2_int min2_int max_two min_two max_three min_three max_four min_four
set_option linter.unusedVariables false
set_option linter.unusedSimpArgs false
/-! ### reredosref01_Neg: function 54 -/
def reredosref01_Neg.f (k : Nat) (a0 : ByteArray) : Option (ByteArray) := (reredosref01_May.f k a0).bind fun t172 => (if t172 = true then ((reredosref01_turned.f k a0).bind fun t173 => (some t173)) else (some (⟨#[]⟩ : ByteArray)))
set_option maxHeartbeats 8000000 in
set_option maxRecDepth 100000 in
theorem reredosref01_Neg.calls (k : Nat) (a0 : ByteArray) (r : ByteArray) (w : World) (h : reredosref01_Neg.f k a0 = some r) :
    Calls Tryz.prog 54 #[.string a0] w fun e w' => e = .returned (.string r) ∧ Drawn0 w w' := by
  have H : ((reredosref01_May.f k a0).bind fun t172 => (if t172 = true then ((reredosref01_turned.f k a0).bind fun t173 => (some t173)) else (some (⟨#[]⟩ : ByteArray)))) = some r := h
  clear h
  obtain ⟨t172, A20, H⟩ := Option.bind_eq_some_iff.mp H
  try dsimp only at H
  have A2 := Aside0.mk A20
  clear A20
  by_cases c3 : t172 = true
  · subst c3
    rw [if_pos rfl] at H
    obtain ⟨t173, A40, H⟩ := Option.bind_eq_some_iff.mp H
    try dsimp only at H
    have A4 := Aside0.mk A40
    clear A40
    obtain rfl := Option.some.inj H
    go_enter Tryz.func54, Tryz.ntmps54
    go_wp2_with (first | ((with_reducible refine gate_callee (f := 46) rfl ?_); refine goesL_ (some 4) rfl rfl Tryz.func46 (by kernel_rfl) rfl #[.string a0] rfl bkA ?_; (with_reducible refine (reredosref01_May.calls k a0 true _ A2.out).mono ?_); rintro e w' ⟨rfl, ⟨nd, rfl⟩⟩; refine ⟨_, rfl, ?_⟩) | ((with_reducible refine gate_callee (f := 76) rfl ?_); refine goesL_ (some 7) rfl rfl Tryz.func76 (by kernel_rfl) rfl #[.string a0] rfl bkA ?_; (with_reducible refine (reredosref01_turned.calls k a0 t173 _ A4.out).mono ?_); rintro e w' ⟨rfl, ⟨nd, rfl⟩⟩; refine ⟨_, rfl, ?_⟩))
    go_ret
    exact ⟨bkF, bkD⟩
  · replace c3 := Bool.eq_false_iff.mpr c3
    subst c3
    rw [if_neg Bool.false_ne_true] at H
    obtain rfl := Option.some.inj H
    go_enter Tryz.func54, Tryz.ntmps54
    go_wp2_with (first | ((with_reducible refine gate_callee (f := 46) rfl ?_); refine goesL_ (some 4) rfl rfl Tryz.func46 (by kernel_rfl) rfl #[.string a0] rfl bkA ?_; (with_reducible refine (reredosref01_May.calls k a0 false _ A2.out).mono ?_); rintro e w' ⟨rfl, ⟨nd, rfl⟩⟩; refine ⟨_, rfl, ?_⟩))
    go_ret
    exact ⟨bkF, bkD⟩
/-! ### reredosref01_Sign: function 56 -/
def reredosref01_Sign.j0 : Nat → ByteArray → Bool → Option (Int)
  | 0, _, _ => none
  | k + 1, x0, x9 => if x9 = true then (some 0) else ((reredosref01_low.f x0).bind fun t175 => (if t175 = true then (some (-1)) else (some 1)))
def reredosref01_Sign.f (k : Nat) (a0 : ByteArray) : Option (Int) := (reredosref01_May.f k a0).bind fun t174 => (if t174 = true then (reredosref01_Sign.j0 k a0 (a0.toList == ([48] : List UInt8))) else (reredosref01_Sign.j0 k a0 true))
set_option maxHeartbeats 8000000 in
set_option maxRecDepth 100000 in
theorem reredosref01_Sign.calls (k : Nat) (a0 : ByteArray) (r : Int) (w : World) (h : reredosref01_Sign.f k a0 = some r) :
    Calls Tryz.prog 56 #[.string a0] w fun e w' => e = .returned (.int .i64 r) ∧ Drawn0 w w' := by
  have H : ((reredosref01_May.f k a0).bind fun t174 => (if t174 = true then (reredosref01_Sign.j0 k a0 (a0.toList == ([48] : List UInt8))) else (reredosref01_Sign.j0 k a0 true))) = some r := h
  clear h
  have HC2 := Aside0.mk H
  clear H
  go_enter Tryz.func56, Tryz.ntmps56
  go_upto_region 1 with (fail)
  go_cut [9] (fun v9 wc => ∃ (kq : Nat) (x9_1 : Bool), v9 = .bool x9_1 ∧ Aside0 (reredosref01_Sign.j0 kq a0 x9_1 = some r) ∧ Aside0 (kq ≤ k) ∧ Drawn0 w wc)
  case first =>
    have H := HC2.out
    clear HC2
    obtain ⟨t174, A30, H⟩ := Option.bind_eq_some_iff.mp H
    try dsimp only at H
    have A3 := Aside0.mk A30
    clear A30
    by_cases c4 : t174 = true
    · subst c4
      rw [if_pos rfl] at H
      have H' := Aside0.mk H
      clear H
      go_wp2_with (first | ((with_reducible refine gate_callee (f := 46) rfl ?_); refine goesL_ (some 4) rfl rfl Tryz.func46 (by kernel_rfl) rfl #[.string a0] rfl bkA ?_; (with_reducible refine (reredosref01_May.calls k a0 true _ A3.out).mono ?_); rintro e w' ⟨rfl, ⟨nd, rfl⟩⟩; refine ⟨_, rfl, ?_⟩))
      go_meet
      case rel => exact ⟨_, ((a0.toList == ([48] : List UInt8))), bkF, H', ⟨by first | omega | exact Nat.le_refl _⟩, bkD⟩
    · replace c4 := Bool.eq_false_iff.mpr c4
      subst c4
      rw [if_neg Bool.false_ne_true] at H
      have H' := Aside0.mk H
      clear H
      go_wp2_with (first | ((with_reducible refine gate_callee (f := 46) rfl ?_); refine goesL_ (some 4) rfl rfl Tryz.func46 (by kernel_rfl) rfl #[.string a0] rfl bkA ?_; (with_reducible refine (reredosref01_May.calls k a0 false _ A3.out).mono ?_); rintro e w' ⟨rfl, ⟨nd, rfl⟩⟩; refine ⟨_, rfl, ?_⟩))
      go_meet
      case rel => exact ⟨_, (true), bkF, H', ⟨by first | omega | exact Nat.le_refl _⟩, bkD⟩
  case rest =>
    clear HC2
    try clear p2
    try clear c4
    obtain ⟨kq, x9_1, rfl, HA, HJ1, ⟨mc1, rfl⟩⟩ := hcut
    cases kq with
    | zero => exact absurd HA.out (by simp [reredosref01_Sign.j0])
    | succ kj1 =>
      have H := HA.out
      clear HA
      simp only [reredosref01_Sign.j0] at H
      by_cases c5 : x9_1 = true
      · subst c5
        rw [if_pos rfl] at H
        obtain rfl := Option.some.inj H
        go_wp2
        go_ret
        exact ⟨bkF, bkD⟩
      · replace c5 := Bool.eq_false_iff.mpr c5
        subst c5
        rw [if_neg Bool.false_ne_true] at H
        obtain ⟨t175, A60, H⟩ := Option.bind_eq_some_iff.mp H
        try dsimp only at H
        have A6 := Aside0.mk A60
        clear A60
        by_cases c7 : t175 = true
        · subst c7
          rw [if_pos rfl] at H
          obtain rfl := Option.some.inj H
          go_wp2_with (first | ((with_reducible refine gate_callee (f := 80) rfl ?_); refine goesL_ (some 11) rfl rfl Tryz.func80 (by kernel_rfl) rfl #[.string a0] rfl bkA ?_; (with_reducible refine (reredosref01_low.calls a0 true _ A6.out).mono ?_); rintro e w' ⟨rfl, ⟨nd, rfl⟩⟩; refine ⟨_, rfl, ?_⟩))
          go_ret
          exact ⟨bkF, bkD⟩
        · replace c7 := Bool.eq_false_iff.mpr c7
          subst c7
          rw [if_neg Bool.false_ne_true] at H
          obtain rfl := Option.some.inj H
          go_wp2_with (first | ((with_reducible refine gate_callee (f := 80) rfl ?_); refine goesL_ (some 11) rfl rfl Tryz.func80 (by kernel_rfl) rfl #[.string a0] rfl bkA ?_; (with_reducible refine (reredosref01_low.calls a0 false _ A6.out).mono ?_); rintro e w' ⟨rfl, ⟨nd, rfl⟩⟩; refine ⟨_, rfl, ?_⟩))
          go_ret
          exact ⟨bkF, bkD⟩
/-! ### reredosref01_bounded: function 74 -/
def reredosref01_bounded.f (k : Nat) (a0 : ByteArray) : Option (ByteArray) := (reredosref01_size.f a0).bind fun t176 => (if (t176.size : Int) > 100 then ((reredosref01_low.f a0).bind fun t177 => ((reredosref01_signed.f k (⟨#[49]⟩ : ByteArray) t177).bind fun t178 => (some t178))) else (some a0))
set_option maxHeartbeats 8000000 in
set_option maxRecDepth 100000 in
theorem reredosref01_bounded.calls (k : Nat) (a0 : ByteArray) (r : ByteArray) (w : World) (h : reredosref01_bounded.f k a0 = some r) :
    Calls Tryz.prog 74 #[.string a0] w fun e w' => e = .returned (.string r) ∧ Drawn0 w w' := by
  have H : ((reredosref01_size.f a0).bind fun t176 => (if (t176.size : Int) > 100 then ((reredosref01_low.f a0).bind fun t177 => ((reredosref01_signed.f k (⟨#[49]⟩ : ByteArray) t177).bind fun t178 => (some t178))) else (some a0))) = some r := h
  clear h
  obtain ⟨t176, A20, H⟩ := Option.bind_eq_some_iff.mp H
  try dsimp only at H
  have A2 := Aside0.mk A20
  clear A20
  by_cases c3 : (t176.size : Int) > 100
  · rw [if_pos c3] at H
    have c3b0 : decide (100 < (t176.size : Int)) = true := decide_eq_true c3
    have c3b1 : decide (100 < t176.size) = true := decide_eq_true (by omega)
    clear c3
    obtain ⟨t177, A40, H⟩ := Option.bind_eq_some_iff.mp H
    try dsimp only at H
    have A4 := Aside0.mk A40
    clear A40
    obtain ⟨t178, A50, H⟩ := Option.bind_eq_some_iff.mp H
    try dsimp only at H
    have A5 := Aside0.mk A50
    clear A50
    obtain rfl := Option.some.inj H
    go_enter Tryz.func74, Tryz.ntmps74
    go_wp2_with (first | ((with_reducible refine gate_callee (f := 97) rfl ?_); refine goesL_ (some 4) rfl rfl Tryz.func97 (by kernel_rfl) rfl #[.string a0] rfl bkA ?_; (with_reducible refine (reredosref01_size.calls a0 t176 _ A2.out).mono ?_); rintro e w' ⟨rfl, ⟨nd, rfl⟩⟩; refine ⟨_, rfl, ?_⟩) | ((with_reducible refine gate_callee (f := 80) rfl ?_); refine goesL_ (some 8) rfl rfl Tryz.func80 (by kernel_rfl) rfl #[.string a0] rfl bkA ?_; (with_reducible refine (reredosref01_low.calls a0 t177 _ A4.out).mono ?_); rintro e w' ⟨rfl, ⟨nd, rfl⟩⟩; refine ⟨_, rfl, ?_⟩) | ((with_reducible refine gate_callee (f := 98) rfl ?_); refine goesL_ (some 9) rfl rfl Tryz.func98 (by kernel_rfl) rfl #[.string (⟨#[49]⟩ : ByteArray), .bool t177] rfl bkA ?_; (with_reducible refine (reredosref01_signed.calls k (⟨#[49]⟩ : ByteArray) t177 t178 _ A5.out).mono ?_); rintro e w' ⟨rfl, ⟨nd, rfl⟩⟩; refine ⟨_, rfl, ?_⟩))
    go_ret
    exact ⟨bkF, bkD⟩
  · rw [if_neg c3] at H
    have c3b0 : decide (100 < (t176.size : Int)) = false := decide_eq_false c3
    have c3b1 : decide (100 < t176.size) = false := decide_eq_false (by omega)
    clear c3
    obtain rfl := Option.some.inj H
    go_enter Tryz.func74, Tryz.ntmps74
    go_wp2_with (first | ((with_reducible refine gate_callee (f := 97) rfl ?_); refine goesL_ (some 4) rfl rfl Tryz.func97 (by kernel_rfl) rfl #[.string a0] rfl bkA ?_; (with_reducible refine (reredosref01_size.calls a0 t176 _ A2.out).mono ?_); rintro e w' ⟨rfl, ⟨nd, rfl⟩⟩; refine ⟨_, rfl, ?_⟩))
    go_ret
    exact ⟨bkF, bkD⟩
/-! ### reredosref01_digit: function 129 -/
def reredosref01_digit.f (a0 : ByteArray) (a1 : Int) : Option (Int) := if a1 ≥ (a0.size : Int) then (some 0) else (if 0 ≤ (wrap64 ((wrap64 ((a0.size : Int) - 1)) - a1)) then (if (wrap64 ((wrap64 ((a0.size : Int) - 1)) - a1)) < (a0.size : Int) then (some (((bt a0 (wrap64 ((wrap64 ((a0.size : Int) - 1)) - a1))) - 48) % 256)) else (none)) else (none))
set_option maxHeartbeats 8000000 in
set_option maxRecDepth 100000 in
theorem reredosref01_digit.calls (a0 : ByteArray) (a1 : Int) (r : Int) (w : World) (h : reredosref01_digit.f a0 a1 = some r) :
    Calls Tryz.prog 129 #[.string a0, .int .i64 a1] w fun e w' => e = .returned (.int .i64 r) ∧ Drawn0 w w' := by
  have H : (if a1 ≥ (a0.size : Int) then (some 0) else (if 0 ≤ (wrap64 ((wrap64 ((a0.size : Int) - 1)) - a1)) then (if (wrap64 ((wrap64 ((a0.size : Int) - 1)) - a1)) < (a0.size : Int) then (some (((bt a0 (wrap64 ((wrap64 ((a0.size : Int) - 1)) - a1))) - 48) % 256)) else (none)) else (none))) = some r := h
  clear h
  by_cases c3 : a1 ≥ (a0.size : Int)
  · rw [if_pos c3] at H
    have c3b0 : decide ((a0.size : Int) ≤ a1) = true := decide_eq_true c3
    clear c3
    obtain rfl := Option.some.inj H
    go_enter Tryz.func129, Tryz.ntmps129
    go_wp2
    go_ret
    exact ⟨bkF, bkD⟩
  · rw [if_neg c3] at H
    have c3b0 : decide ((a0.size : Int) ≤ a1) = false := decide_eq_false c3
    clear c3
    obtain ⟨ji4, hji4⟩ : ∃ j_ : Int, (wrap64 ((wrap64 ((a0.size : Int) - 1)) - a1)) = j_ := ⟨_, rfl⟩
    replace H : (if 0 ≤ (ji4) then (if (ji4) < (a0.size : Int) then (some (((bt a0 (ji4)) - 48) % 256)) else (none)) else (none)) = some r := by first | (rw [hji4] at H; exact H) | (simp only [hji4] at H ⊢; exact H)
    have hji4w : (IntKind.i64.wrap ((wrap64 ((a0.size : Int) - 1)) - a1)) = ji4 := (i64_w _).trans hji4
    by_cases c5 : 0 ≤ (ji4)
    · rw [if_pos c5] at H
      have c5b0 : decide (0 ≤ (ji4)) = true := decide_eq_true c5
      clear c5
      by_cases c6 : (ji4) < (a0.size : Int)
      · rw [if_pos c6] at H
        have c6b0 : decide ((ji4) < (a0.size : Int)) = true := decide_eq_true c6
        clear c6
        obtain rfl := Option.some.inj H
        have p7 : 0 ≤ ((ji4) : Int) := of_decide_eq_true (by first | (with_reducible assumption) | assumption)
        have q7 : (ji4) < (a0.size : Int) := of_decide_eq_true (by first | (with_reducible assumption) | assumption)
        have hx7 := bt_at a0 (ji4)
        replace p7 := eq_true p7
        replace q7 := eq_true q7
        go_enter Tryz.func129, Tryz.ntmps129
        go_wp2
        go_ret
        exact ⟨by first | rfl | (simp; done) | (simp only [← hji4] <;> (first | rfl | simp)) | (simp [*]; done), bkD⟩
      · rw [if_neg c6] at H
        exact absurd H (by simp)
    · rw [if_neg c5] at H
      exact absurd H (by simp)
/-! ### reredosref01_plus: function 99 -/
def reredosref01_plus.l0 : Nat → ByteArray → ByteArray → ByteArray → Int → Int → Option (ByteArray)
  | 0, _, _, _, _, _ => none
  | k + 1, x0, x1, x5, x6, x7 => if x7 ≤ (mx (x0.size : Int) (x1.size : Int)) then ((reredosref01_digit.f x0 x7).bind fun t179 => ((reredosref01_digit.f x1 x7).bind fun t180 => ((some (([(wrap64 (48 + (Int.tmod (wrap64 ((wrap64 (t179 + t180)) + x6)) 10))) % 256] : List Int) : List Int)).bind fun y181 => (if (strOfNums y181).size + x5.size ≤ 9223372036854775807 then (reredosref01_plus.l0 k x0 x1 ((strOfNums y181) ++ x5) (wrap64 (Int.tdiv (wrap64 ((wrap64 (t179 + t180)) + x6)) 10)) (wrap64 (x7 + 1))) else (none))))) else ((reredosref01_bare.f k x5).bind fun t184 => (some t184))
def reredosref01_plus.f (k : Nat) (a0 : ByteArray) (a1 : ByteArray) : Option (ByteArray) := reredosref01_plus.l0 k a0 a1 (⟨#[]⟩ : ByteArray) 0 0
set_option maxHeartbeats 8000000 in
set_option maxRecDepth 100000 in
theorem reredosref01_plus.calls (k : Nat) (a0 : ByteArray) (a1 : ByteArray) (r : ByteArray) (w : World) (h : reredosref01_plus.f k a0 a1 = some r) :
    Calls Tryz.prog 99 #[.string a0, .string a1] w fun e w' => e = .returned (.string r) ∧ Below w.heap.size w w' := by
  have HB := Aside0.mk (Below.refl w.heap.size w)
  have H : (reredosref01_plus.l0 k a0 a1 (⟨#[]⟩ : ByteArray) 0 0) = some r := h
  clear h
  have H' := Aside0.mk H
  clear H
  go_enter Tryz.func99, Tryz.ntmps99
  go_wp2
  go_loopg [5, 6, 7] k (fun kq v5 v6 v7 w' => ∃ (x5_1 : ByteArray) (x6_1 : Int) (x7_1 : Int), v5 = .string x5_1 ∧ v6 = .int .i64 x6_1 ∧ v7 = .int .i64 x7_1 ∧ Aside0 (reredosref01_plus.l0 kq a0 a1 x5_1 x6_1 x7_1 = some r) ∧ Aside0 (kq ≤ k) ∧ Aside0 (Below w.heap.size w w'))
  case atStart => exact ⟨((⟨#[]⟩ : ByteArray)), (0), (0), bkF, bkF, bkF, H', ⟨Nat.le_refl _⟩, ⟨bkB⟩⟩
  case round =>
    clear H'
    try clear p2
    obtain ⟨x5_1, x6_1, x7_1, rfl, rfl, rfl, HA, HK1, HB⟩ := hrel
    cases gk with
    | zero => exact absurd HA.out (by simp [reredosref01_plus.l0])
    | succ k1 =>
      have H := HA.out
      clear HA
      simp only [reredosref01_plus.l0] at H
      obtain ⟨ji3, hji3⟩ : ∃ j_ : Int, (mx (a0.size : Int) (a1.size : Int)) = j_ := ⟨_, rfl⟩
      replace H : (if x7_1 ≤ (ji3) then ((reredosref01_digit.f a0 x7_1).bind fun t179 => ((reredosref01_digit.f a1 x7_1).bind fun t180 => ((some (([(wrap64 (48 + (Int.tmod (wrap64 ((wrap64 (t179 + t180)) + x6_1)) 10))) % 256] : List Int) : List Int)).bind fun y181 => (if (strOfNums y181).size + x5_1.size ≤ 9223372036854775807 then (reredosref01_plus.l0 k1 a0 a1 ((strOfNums y181) ++ x5_1) (wrap64 (Int.tdiv (wrap64 ((wrap64 (t179 + t180)) + x6_1)) 10)) (wrap64 (x7_1 + 1))) else (none))))) else ((reredosref01_bare.f k1 x5_1).bind fun t184 => (some t184))) = some r := by first | (rw [hji3] at H; exact H) | (simp only [hji3] at H ⊢; exact H)
      have hji3_ : (if (a0.size : Int) < (a1.size : Int) then (a1.size : Int) else (a0.size : Int)) = ji3 := hji3
      have hji3n : (if a0.size < a1.size then (a1.size : Int) else (a0.size : Int)) = ji3 := by simpa only [Int.ofNat_lt] using hji3_
      by_cases c4 : x7_1 ≤ (ji3)
      · rw [if_pos c4] at H
        have c4b0 : decide (x7_1 ≤ (ji3)) = true := decide_eq_true c4
        clear c4
        obtain ⟨t179, A50, H⟩ := Option.bind_eq_some_iff.mp H
        try dsimp only at H
        have A5 := Aside0.mk A50
        clear A50
        obtain ⟨t180, A60, H⟩ := Option.bind_eq_some_iff.mp H
        try dsimp only at H
        have A6 := Aside0.mk A60
        clear A60
        obtain ⟨y181, hy181⟩ : ∃ y_ : List Int, y_ = (([(wrap64 (48 + (Int.tmod (wrap64 ((wrap64 (t179 + t180)) + x6_1)) 10))) % 256] : List Int)) := ⟨_, rfl⟩
        replace H : (if (strOfNums y181).size + x5_1.size ≤ 9223372036854775807 then (reredosref01_plus.l0 k1 a0 a1 ((strOfNums y181) ++ x5_1) (wrap64 (Int.tdiv (wrap64 ((wrap64 (t179 + t180)) + x6_1)) 10)) (wrap64 (x7_1 + 1))) else (none)) = some r := by first | (rw [hy181]; with_reducible exact H) | (have H2_ := (Option.bind_some _ _).symm.trans H; rw [hy181]; with_reducible exact H2_) | (have H2_ := (Option.bind_some _ _).symm.trans H; with_reducible exact H2_) | with_reducible exact H | (rw [hy181]; exact H) | exact H
        have Ny181 := Aside0.mk hy181
        clear hy181
        by_cases c7 : (strOfNums y181).size + x5_1.size ≤ 9223372036854775807
        · rw [if_pos c7] at H
          have c7b0 := eq_true c7
          have c7b1 : decide ((strOfNums y181).size + x5_1.size ≤ 9223372036854775807) = true := decide_eq_true c7
          try have c7b2 : (9223372036854775807 < (strOfNums y181).size + x5_1.size) = False := eq_false (Nat.not_lt.2 c7)
          have H' := Aside0.mk H
          clear H
          go_wp2_with (first | ((with_reducible refine gate_callee (f := 129) rfl ?_); refine goesL_ (some 20) rfl rfl Tryz.func129 (by kernel_rfl) rfl #[.string a0, .int .i64 x7_1] rfl bkA ?_; (with_reducible refine (reredosref01_digit.calls a0 x7_1 t179 _ A5.out).mono ?_); rintro e w' ⟨rfl, ⟨nd, rfl⟩⟩; refine ⟨_, rfl, ?_⟩) | ((with_reducible refine gate_callee (f := 129) rfl ?_); refine goesL_ (some 23) rfl rfl Tryz.func129 (by kernel_rfl) rfl #[.string a1, .int .i64 x7_1] rfl bkA ?_; (with_reducible refine (reredosref01_digit.calls a1 x7_1 t180 _ A6.out).mono ?_); rintro e w' ⟨rfl, ⟨nd, rfl⟩⟩; refine ⟨_, rfl, ?_⟩) | ((with_reducible refine gate_dst (N := 31) rfl ?_); refine Kd.R_lit (Kd.int .u8) _ 5 ?hg (N := 31) ?hd (xs := ([(wrap64 (48 + (Int.tmod (wrap64 ((wrap64 (t179 + t180)) + x6_1)) 10))) % 256] : List Int)) (inner := [.int .u8 ((wrap64 (48 + (Int.tmod (wrap64 ((wrap64 (t179 + t180)) + x6_1)) 10))) % 256)]) (ok := fun _ => True) (okp := fun _ => True) ?hr ?hp (fun _ hk => hk) trivial (Below.refl _ _) (Nat.le_refl _) (by simp) ?_; (case hd => rfl); (case hg => rfl); (case hr => first | (go_simp; done) | (go_simp; rfl)); (case hp => exact (Reps.one (show Kd.M (Kd.int .u8) _ _ _ ((wrap64 (48 + (Int.tmod (wrap64 ((wrap64 (t179 + t180)) + x6_1)) 10))) % 256) [.int .u8 ((wrap64 (48 + (Int.tmod (wrap64 ((wrap64 (t179 + t180)) + x6_1)) 10))) % 256)] from rfl) (Reps.none _ _))); intro v182 w8 ho9 hb hg_ hnew_; clear hg_ hnew_; (first | rw [← Ny181.out] at ho9 | (simp only [Int.reduceToNat] at ho9; rw [← Ny181.out] at ho9)); have n0_ := Aside0.mk (Kd.R_lower ho9 (below_size bkB)); have n1_ := Aside0.mk (below_step bkB hb); clear HB; have HO183 := n0_; have HB := n1_; clear n0_ n1_; clear hb ho9; have hcv10 := own_string (P := Tryz.prog) Tryz.underlying69 Tryz.underlying5 Tryz.underlying9 (Kd.own_of_R HO183.out)))
          go_roundg k1
          case measure => have := HK1.out; omega
          case rel => exact ⟨((strOfNums y181) ++ x5_1), (wrap64 (Int.tdiv (wrap64 ((wrap64 (t179 + t180)) + x6_1)) 10)), (wrap64 (x7_1 + 1)), bkF, bkF, bkF, H', ⟨by have := HK1.out; omega⟩, ⟨bkB⟩⟩
        · rw [if_neg c7] at H
          exact absurd H (by simp)
      · rw [if_neg c4] at H
        have c4b0 : decide (x7_1 ≤ (ji3)) = false := decide_eq_false c4
        clear c4
        obtain ⟨t184, A110, H⟩ := Option.bind_eq_some_iff.mp H
        try dsimp only at H
        have A11 := Aside0.mk A110
        clear A110
        obtain rfl := Option.some.inj H
        go_wp2_with (first | ((with_reducible refine gate_callee (f := 102) rfl ?_); refine goesL_ (some 38) rfl rfl Tryz.func102 (by kernel_rfl) rfl #[.string x5_1] rfl bkA ?_; (with_reducible refine (reredosref01_bare.calls k1 x5_1 t184 _ A11.out).mono ?_); rintro e w' ⟨rfl, ⟨nd, rfl⟩⟩; refine ⟨_, rfl, ?_⟩))
        go_ret
        exact ⟨by first | rfl | (simp [errW_none, errW_some] <;> rfl) | (simp only [← hji3]; first | rfl | (simp [errW_none, errW_some] <;> rfl)) | (simp [*, errW_none, errW_some] <;> rfl), bkB⟩
/-! ### reredosref01_more: function 100 -/
def reredosref01_more.l0 : Nat → ByteArray → ByteArray → Int → Option (Int)
  | 0, _, _, _ => none
  | k + 1, x0, x1, x5 => if x5 < (x0.size : Int) then (if 0 ≤ x5 then (if x5 < (x1.size : Int) then (if (bt x0 x5) < (bt x1 x5) then (some (-1)) else (if (bt x0 x5) > (bt x1 x5) then (some 1) else (reredosref01_more.l0 k x0 x1 (wrap64 (x5 + 1))))) else (none)) else (none)) else (some 0)
def reredosref01_more.f (k : Nat) (a0 : ByteArray) (a1 : ByteArray) : Option (Int) := if (a0.size : Int) = (a1.size : Int) then (reredosref01_more.l0 k a0 a1 0) else (if (a0.size : Int) < (a1.size : Int) then (some (-1)) else (some 1))
set_option maxHeartbeats 8000000 in
set_option maxRecDepth 100000 in
theorem reredosref01_more.calls (k : Nat) (a0 : ByteArray) (a1 : ByteArray) (r : Int) (w : World) (h : reredosref01_more.f k a0 a1 = some r) :
    Calls Tryz.prog 100 #[.string a0, .string a1] w fun e w' => e = .returned (.int .i64 r) ∧ Drawn0 w w' := by
  have H : (if (a0.size : Int) = (a1.size : Int) then (reredosref01_more.l0 k a0 a1 0) else (if (a0.size : Int) < (a1.size : Int) then (some (-1)) else (some 1))) = some r := h
  clear h
  by_cases c3 : (a0.size : Int) = (a1.size : Int)
  · rw [if_pos c3] at H
    have c3b0 : ((a0.size : Int) == (a1.size : Int)) = true := beq_iff_eq.mpr c3
    have c3b1 : ((a0.size : Int) != (a1.size : Int)) = false := bne_eq_false_iff_eq.mpr c3
    have c3b2 : (a0.size == a1.size) = true := by first | simpa using c3 | (simp at c3 ⊢; omega)
    clear c3
    have H' := Aside0.mk H
    clear H
    go_enter Tryz.func100, Tryz.ntmps100
    go_wp2
    repeat (go_quiet (fail); try go_wp2)
    go_loopg [5] k (fun kq v5 w' => ∃ (x5_1 : Int), v5 = .int .i64 x5_1 ∧ Aside0 (reredosref01_more.l0 kq a0 a1 x5_1 = some r) ∧ Aside0 (kq ≤ k) ∧ Drawn0 w w')
    case atStart => exact ⟨(0), bkF, H', ⟨Nat.le_refl _⟩, bkD⟩
    case round =>
      clear H'
      try clear c1
      try clear p2
      try clear c3
      try clear c3b0
      try clear c3b1
      try clear c3b2
      obtain ⟨x5_1, rfl, HA, HK1, ⟨m1, rfl⟩⟩ := hrel
      cases gk with
      | zero => exact absurd HA.out (by simp [reredosref01_more.l0])
      | succ k1 =>
        have H := HA.out
        clear HA
        simp only [reredosref01_more.l0] at H
        by_cases c4 : x5_1 < (a0.size : Int)
        · rw [if_pos c4] at H
          have c4b0 : decide (x5_1 < (a0.size : Int)) = true := decide_eq_true c4
          clear c4
          by_cases c5 : 0 ≤ x5_1
          · rw [if_pos c5] at H
            have c5b0 : decide (0 ≤ x5_1) = true := decide_eq_true c5
            clear c5
            by_cases c7 : x5_1 < (a1.size : Int)
            · rw [if_pos c7] at H
              have c7b0 : decide (x5_1 < (a1.size : Int)) = true := decide_eq_true c7
              clear c7
              by_cases c9 : (bt a0 x5_1) < (bt a1 x5_1)
              · rw [if_pos c9] at H
                have c9b0 : decide ((bt a0 x5_1) < (bt a1 x5_1)) = true := decide_eq_true c9
                clear c9
                obtain rfl := Option.some.inj H
                have p6 : 0 ≤ (x5_1 : Int) := of_decide_eq_true (by first | (with_reducible assumption) | assumption)
                have q6 : x5_1 < (a0.size : Int) := of_decide_eq_true (by first | (with_reducible assumption) | assumption)
                have hx6 := bt_at a0 x5_1
                replace p6 := eq_true p6
                replace q6 := eq_true q6
                have p8 : 0 ≤ (x5_1 : Int) := of_decide_eq_true (by first | (with_reducible assumption) | assumption)
                have q8 : x5_1 < (a1.size : Int) := of_decide_eq_true (by first | (with_reducible assumption) | assumption)
                have hx8 := bt_at a1 x5_1
                replace p8 := eq_true p8
                replace q8 := eq_true q8
                go_wp2
                repeat (go_quiet (fail); try go_wp2)
                go_ret
                exact ⟨bkF, bkD⟩
              · rw [if_neg c9] at H
                have c9b0 : decide ((bt a0 x5_1) < (bt a1 x5_1)) = false := decide_eq_false c9
                clear c9
                by_cases c12 : (bt a0 x5_1) > (bt a1 x5_1)
                · rw [if_pos c12] at H
                  have c12b0 : decide ((bt a1 x5_1) < (bt a0 x5_1)) = true := decide_eq_true c12
                  clear c12
                  obtain rfl := Option.some.inj H
                  have p6 : 0 ≤ (x5_1 : Int) := of_decide_eq_true (by first | (with_reducible assumption) | assumption)
                  have q6 : x5_1 < (a0.size : Int) := of_decide_eq_true (by first | (with_reducible assumption) | assumption)
                  have hx6 := bt_at a0 x5_1
                  replace p6 := eq_true p6
                  replace q6 := eq_true q6
                  have p8 : 0 ≤ (x5_1 : Int) := of_decide_eq_true (by first | (with_reducible assumption) | assumption)
                  have q8 : x5_1 < (a1.size : Int) := of_decide_eq_true (by first | (with_reducible assumption) | assumption)
                  have hx8 := bt_at a1 x5_1
                  replace p8 := eq_true p8
                  replace q8 := eq_true q8
                  have p10 : 0 ≤ (x5_1 : Int) := of_decide_eq_true (by first | (with_reducible assumption) | assumption)
                  have q10 : x5_1 < (a0.size : Int) := of_decide_eq_true (by first | (with_reducible assumption) | assumption)
                  have hx10 := bt_at a0 x5_1
                  replace p10 := eq_true p10
                  replace q10 := eq_true q10
                  have p11 : 0 ≤ (x5_1 : Int) := of_decide_eq_true (by first | (with_reducible assumption) | assumption)
                  have q11 : x5_1 < (a1.size : Int) := of_decide_eq_true (by first | (with_reducible assumption) | assumption)
                  have hx11 := bt_at a1 x5_1
                  replace p11 := eq_true p11
                  replace q11 := eq_true q11
                  go_wp2
                  repeat (go_quiet (fail); try go_wp2)
                  go_ret
                  exact ⟨bkF, bkD⟩
                · rw [if_neg c12] at H
                  have c12b0 : decide ((bt a1 x5_1) < (bt a0 x5_1)) = false := decide_eq_false c12
                  clear c12
                  have H' := Aside0.mk H
                  clear H
                  have p6 : 0 ≤ (x5_1 : Int) := of_decide_eq_true (by first | (with_reducible assumption) | assumption)
                  have q6 : x5_1 < (a0.size : Int) := of_decide_eq_true (by first | (with_reducible assumption) | assumption)
                  have hx6 := bt_at a0 x5_1
                  replace p6 := eq_true p6
                  replace q6 := eq_true q6
                  have p8 : 0 ≤ (x5_1 : Int) := of_decide_eq_true (by first | (with_reducible assumption) | assumption)
                  have q8 : x5_1 < (a1.size : Int) := of_decide_eq_true (by first | (with_reducible assumption) | assumption)
                  have hx8 := bt_at a1 x5_1
                  replace p8 := eq_true p8
                  replace q8 := eq_true q8
                  have p10 : 0 ≤ (x5_1 : Int) := of_decide_eq_true (by first | (with_reducible assumption) | assumption)
                  have q10 : x5_1 < (a0.size : Int) := of_decide_eq_true (by first | (with_reducible assumption) | assumption)
                  have hx10 := bt_at a0 x5_1
                  replace p10 := eq_true p10
                  replace q10 := eq_true q10
                  have p11 : 0 ≤ (x5_1 : Int) := of_decide_eq_true (by first | (with_reducible assumption) | assumption)
                  have q11 : x5_1 < (a1.size : Int) := of_decide_eq_true (by first | (with_reducible assumption) | assumption)
                  have hx11 := bt_at a1 x5_1
                  replace p11 := eq_true p11
                  replace q11 := eq_true q11
                  go_wp2
                  repeat (go_quiet (fail); try go_wp2)
                  go_roundg k1
                  case measure => have := HK1.out; omega
                  case rel => exact ⟨(wrap64 (x5_1 + 1)), bkF, H', ⟨by have := HK1.out; omega⟩, bkD⟩
            · rw [if_neg c7] at H
              exact absurd H (by simp)
          · rw [if_neg c5] at H
            exact absurd H (by simp)
        · rw [if_neg c4] at H
          have c4b0 : decide (x5_1 < (a0.size : Int)) = false := decide_eq_false c4
          clear c4
          obtain rfl := Option.some.inj H
          go_wp2
          repeat (go_quiet (fail); try go_wp2)
          go_ret
          exact ⟨bkF, bkD⟩
  · rw [if_neg c3] at H
    have c3b0 : ((a0.size : Int) == (a1.size : Int)) = false := beq_eq_false_iff_ne.mpr c3
    have c3b1 : ((a0.size : Int) != (a1.size : Int)) = true := bne_iff_ne.mpr c3
    have c3b2 : (a0.size == a1.size) = false := by first | simpa using c3 | (simp at c3 ⊢; omega)
    by_cases c13 : (a0.size : Int) < (a1.size : Int)
    · rw [if_pos c13] at H
      have c13b0 : decide ((a0.size : Int) < (a1.size : Int)) = true := decide_eq_true c13
      have c13b1 : decide (a0.size < a1.size) = true := decide_eq_true (Int.ofNat_lt.mp c13)
      clear c13
      obtain rfl := Option.some.inj H
      go_enter Tryz.func100, Tryz.ntmps100
      go_wp2
      repeat (go_quiet (fail); try go_wp2)
      go_ret
      exact ⟨bkF, bkD⟩
    · rw [if_neg c13] at H
      have c13b0 : decide ((a0.size : Int) < (a1.size : Int)) = false := decide_eq_false c13
      have c13b1 : decide (a0.size < a1.size) = false := decide_eq_false (fun h => c13 (Int.ofNat_lt.mpr h))
      clear c13
      obtain rfl := Option.some.inj H
      go_enter Tryz.func100, Tryz.ntmps100
      go_wp2
      repeat (go_quiet (fail); try go_wp2)
      go_ret
      exact ⟨bkF, bkD⟩
/-! ### reredosref01_minus: function 101 -/
def reredosref01_minus.l0 : Nat → ByteArray → ByteArray → ByteArray → Int → Int → Option (ByteArray)
  | 0, _, _, _, _, _ => none
  | k + 1, x0, x1, x5, x6, x7 => if x7 < (x0.size : Int) then ((reredosref01_digit.f x0 x7).bind fun t186 => ((reredosref01_digit.f x1 x7).bind fun t187 => (if (wrap64 ((wrap64 (t186 - t187)) - x6)) < 0 then ((some (([(wrap64 (48 + (wrap64 ((wrap64 ((wrap64 (t186 - t187)) - x6)) + 10)))) % 256] : List Int) : List Int)).bind fun y188 => (if (strOfNums y188).size + x5.size ≤ 9223372036854775807 then (reredosref01_minus.l0 k x0 x1 ((strOfNums y188) ++ x5) 1 (wrap64 (x7 + 1))) else (none))) else ((some (([(wrap64 (48 + (wrap64 ((wrap64 (t186 - t187)) - x6)))) % 256] : List Int) : List Int)).bind fun y191 => (if (strOfNums y191).size + x5.size ≤ 9223372036854775807 then (reredosref01_minus.l0 k x0 x1 ((strOfNums y191) ++ x5) 0 (wrap64 (x7 + 1))) else (none)))))) else ((reredosref01_bare.f k x5).bind fun t185 => (some t185))
def reredosref01_minus.f (k : Nat) (a0 : ByteArray) (a1 : ByteArray) : Option (ByteArray) := reredosref01_minus.l0 k a0 a1 (⟨#[]⟩ : ByteArray) 0 0
set_option maxHeartbeats 8000000 in
set_option maxRecDepth 100000 in
theorem reredosref01_minus.calls (k : Nat) (a0 : ByteArray) (a1 : ByteArray) (r : ByteArray) (w : World) (h : reredosref01_minus.f k a0 a1 = some r) :
    Calls Tryz.prog 101 #[.string a0, .string a1] w fun e w' => e = .returned (.string r) ∧ Below w.heap.size w w' := by
  have HB := Aside0.mk (Below.refl w.heap.size w)
  have H : (reredosref01_minus.l0 k a0 a1 (⟨#[]⟩ : ByteArray) 0 0) = some r := h
  clear h
  have H' := Aside0.mk H
  clear H
  go_enter Tryz.func101, Tryz.ntmps101
  go_wp2
  go_loopg [5, 6, 7] k (fun kq v5 v6 v7 w' => ∃ (x5_1 : ByteArray) (x6_1 : Int) (x7_1 : Int), v5 = .string x5_1 ∧ v6 = .int .i64 x6_1 ∧ v7 = .int .i64 x7_1 ∧ Aside0 (reredosref01_minus.l0 kq a0 a1 x5_1 x6_1 x7_1 = some r) ∧ Aside0 (kq ≤ k) ∧ Aside0 (Below w.heap.size w w'))
  case atStart => exact ⟨((⟨#[]⟩ : ByteArray)), (0), (0), bkF, bkF, bkF, H', ⟨Nat.le_refl _⟩, ⟨bkB⟩⟩
  case round =>
    clear H'
    try clear c1
    try clear p2
    obtain ⟨x5_1, x6_1, x7_1, rfl, rfl, rfl, HA, HK1, HB⟩ := hrel
    cases gk with
    | zero => exact absurd HA.out (by simp [reredosref01_minus.l0])
    | succ k1 =>
      have H := HA.out
      clear HA
      simp only [reredosref01_minus.l0] at H
      by_cases c3 : x7_1 < (a0.size : Int)
      · rw [if_pos c3] at H
        have c3b0 : decide (x7_1 < (a0.size : Int)) = true := decide_eq_true c3
        clear c3
        obtain ⟨t186, A40, H⟩ := Option.bind_eq_some_iff.mp H
        try dsimp only at H
        have A4 := Aside0.mk A40
        clear A40
        obtain ⟨t187, A50, H⟩ := Option.bind_eq_some_iff.mp H
        try dsimp only at H
        have A5 := Aside0.mk A50
        clear A50
        by_cases c6 : (wrap64 ((wrap64 (t186 - t187)) - x6_1)) < 0
        · rw [if_pos c6] at H
          have c6b0 : decide ((wrap64 ((wrap64 (t186 - t187)) - x6_1)) < 0) = true := decide_eq_true c6
          clear c6
          obtain ⟨y188, hy188⟩ : ∃ y_ : List Int, y_ = (([(wrap64 (48 + (wrap64 ((wrap64 ((wrap64 (t186 - t187)) - x6_1)) + 10)))) % 256] : List Int)) := ⟨_, rfl⟩
          replace H : (if (strOfNums y188).size + x5_1.size ≤ 9223372036854775807 then (reredosref01_minus.l0 k1 a0 a1 ((strOfNums y188) ++ x5_1) 1 (wrap64 (x7_1 + 1))) else (none)) = some r := by first | (rw [hy188]; with_reducible exact H) | (have H2_ := (Option.bind_some _ _).symm.trans H; rw [hy188]; with_reducible exact H2_) | (have H2_ := (Option.bind_some _ _).symm.trans H; with_reducible exact H2_) | with_reducible exact H | (rw [hy188]; exact H) | exact H
          have Ny188 := Aside0.mk hy188
          clear hy188
          by_cases c7 : (strOfNums y188).size + x5_1.size ≤ 9223372036854775807
          · rw [if_pos c7] at H
            have c7b0 := eq_true c7
            have c7b1 : decide ((strOfNums y188).size + x5_1.size ≤ 9223372036854775807) = true := decide_eq_true c7
            try have c7b2 : (9223372036854775807 < (strOfNums y188).size + x5_1.size) = False := eq_false (Nat.not_lt.2 c7)
            have H' := Aside0.mk H
            clear H
            go_wp2_with (first | ((with_reducible refine gate_callee (f := 129) rfl ?_); refine goesL_ (some 17) rfl rfl Tryz.func129 (by kernel_rfl) rfl #[.string a0, .int .i64 x7_1] rfl bkA ?_; (with_reducible refine (reredosref01_digit.calls a0 x7_1 t186 _ A4.out).mono ?_); rintro e w' ⟨rfl, ⟨nd, rfl⟩⟩; refine ⟨_, rfl, ?_⟩) | ((with_reducible refine gate_callee (f := 129) rfl ?_); refine goesL_ (some 20) rfl rfl Tryz.func129 (by kernel_rfl) rfl #[.string a1, .int .i64 x7_1] rfl bkA ?_; (with_reducible refine (reredosref01_digit.calls a1 x7_1 t187 _ A5.out).mono ?_); rintro e w' ⟨rfl, ⟨nd, rfl⟩⟩; refine ⟨_, rfl, ?_⟩) | ((with_reducible refine gate_dst (N := 31) rfl ?_); refine Kd.R_lit (Kd.int .u8) _ 5 ?hg (N := 31) ?hd (xs := ([(wrap64 (48 + (wrap64 ((wrap64 ((wrap64 (t186 - t187)) - x6_1)) + 10)))) % 256] : List Int)) (inner := [.int .u8 ((wrap64 (48 + (wrap64 ((wrap64 ((wrap64 (t186 - t187)) - x6_1)) + 10)))) % 256)]) (ok := fun _ => True) (okp := fun _ => True) ?hr ?hp (fun _ hk => hk) trivial (Below.refl _ _) (Nat.le_refl _) (by simp) ?_; (case hd => rfl); (case hg => rfl); (case hr => first | (go_simp; done) | (go_simp; rfl)); (case hp => exact (Reps.one (show Kd.M (Kd.int .u8) _ _ _ ((wrap64 (48 + (wrap64 ((wrap64 ((wrap64 (t186 - t187)) - x6_1)) + 10)))) % 256) [.int .u8 ((wrap64 (48 + (wrap64 ((wrap64 ((wrap64 (t186 - t187)) - x6_1)) + 10)))) % 256)] from rfl) (Reps.none _ _))); intro v189 w8 ho9 hb hg_ hnew_; clear hg_ hnew_; (first | rw [← Ny188.out] at ho9 | (simp only [Int.reduceToNat] at ho9; rw [← Ny188.out] at ho9)); have n0_ := Aside0.mk (Kd.R_lower ho9 (below_size bkB)); have n1_ := Aside0.mk (below_step bkB hb); clear HB; have HO190 := n0_; have HB := n1_; clear n0_ n1_; clear hb ho9; have hcv10 := own_string (P := Tryz.prog) Tryz.underlying69 Tryz.underlying5 Tryz.underlying9 (Kd.own_of_R HO190.out)))
            go_roundg k1
            case measure => have := HK1.out; omega
            case rel => exact ⟨((strOfNums y188) ++ x5_1), (1), (wrap64 (x7_1 + 1)), bkF, bkF, bkF, H', ⟨by have := HK1.out; omega⟩, ⟨bkB⟩⟩
          · rw [if_neg c7] at H
            exact absurd H (by simp)
        · rw [if_neg c6] at H
          have c6b0 : decide ((wrap64 ((wrap64 (t186 - t187)) - x6_1)) < 0) = false := decide_eq_false c6
          clear c6
          obtain ⟨y191, hy191⟩ : ∃ y_ : List Int, y_ = (([(wrap64 (48 + (wrap64 ((wrap64 (t186 - t187)) - x6_1)))) % 256] : List Int)) := ⟨_, rfl⟩
          replace H : (if (strOfNums y191).size + x5_1.size ≤ 9223372036854775807 then (reredosref01_minus.l0 k1 a0 a1 ((strOfNums y191) ++ x5_1) 0 (wrap64 (x7_1 + 1))) else (none)) = some r := by first | (rw [hy191]; with_reducible exact H) | (have H2_ := (Option.bind_some _ _).symm.trans H; rw [hy191]; with_reducible exact H2_) | (have H2_ := (Option.bind_some _ _).symm.trans H; with_reducible exact H2_) | with_reducible exact H | (rw [hy191]; exact H) | exact H
          have Ny191 := Aside0.mk hy191
          clear hy191
          by_cases c11 : (strOfNums y191).size + x5_1.size ≤ 9223372036854775807
          · rw [if_pos c11] at H
            have c11b0 := eq_true c11
            have c11b1 : decide ((strOfNums y191).size + x5_1.size ≤ 9223372036854775807) = true := decide_eq_true c11
            try have c11b2 : (9223372036854775807 < (strOfNums y191).size + x5_1.size) = False := eq_false (Nat.not_lt.2 c11)
            have H' := Aside0.mk H
            clear H
            go_wp2_with (first | ((with_reducible refine gate_callee (f := 129) rfl ?_); refine goesL_ (some 17) rfl rfl Tryz.func129 (by kernel_rfl) rfl #[.string a0, .int .i64 x7_1] rfl bkA ?_; (with_reducible refine (reredosref01_digit.calls a0 x7_1 t186 _ A4.out).mono ?_); rintro e w' ⟨rfl, ⟨nd, rfl⟩⟩; refine ⟨_, rfl, ?_⟩) | ((with_reducible refine gate_callee (f := 129) rfl ?_); refine goesL_ (some 20) rfl rfl Tryz.func129 (by kernel_rfl) rfl #[.string a1, .int .i64 x7_1] rfl bkA ?_; (with_reducible refine (reredosref01_digit.calls a1 x7_1 t187 _ A5.out).mono ?_); rintro e w' ⟨rfl, ⟨nd, rfl⟩⟩; refine ⟨_, rfl, ?_⟩) | ((with_reducible refine gate_dst (N := 31) rfl ?_); refine Kd.R_lit (Kd.int .u8) _ 5 ?hg (N := 31) ?hd (xs := ([(wrap64 (48 + (wrap64 ((wrap64 (t186 - t187)) - x6_1)))) % 256] : List Int)) (inner := [.int .u8 ((wrap64 (48 + (wrap64 ((wrap64 (t186 - t187)) - x6_1)))) % 256)]) (ok := fun _ => True) (okp := fun _ => True) ?hr ?hp (fun _ hk => hk) trivial (Below.refl _ _) (Nat.le_refl _) (by simp) ?_; (case hd => rfl); (case hg => rfl); (case hr => first | (go_simp; done) | (go_simp; rfl)); (case hp => exact (Reps.one (show Kd.M (Kd.int .u8) _ _ _ ((wrap64 (48 + (wrap64 ((wrap64 (t186 - t187)) - x6_1)))) % 256) [.int .u8 ((wrap64 (48 + (wrap64 ((wrap64 (t186 - t187)) - x6_1)))) % 256)] from rfl) (Reps.none _ _))); intro v192 w12 ho13 hb hg_ hnew_; clear hg_ hnew_; (first | rw [← Ny191.out] at ho13 | (simp only [Int.reduceToNat] at ho13; rw [← Ny191.out] at ho13)); have n0_ := Aside0.mk (Kd.R_lower ho13 (below_size bkB)); have n1_ := Aside0.mk (below_step bkB hb); clear HB; have HO193 := n0_; have HB := n1_; clear n0_ n1_; clear hb ho13; have hcv14 := own_string (P := Tryz.prog) Tryz.underlying69 Tryz.underlying5 Tryz.underlying9 (Kd.own_of_R HO193.out)))
            go_roundg k1
            case measure => have := HK1.out; omega
            case rel => exact ⟨((strOfNums y191) ++ x5_1), (0), (wrap64 (x7_1 + 1)), bkF, bkF, bkF, H', ⟨by have := HK1.out; omega⟩, ⟨bkB⟩⟩
          · rw [if_neg c11] at H
            exact absurd H (by simp)
      · rw [if_neg c3] at H
        have c3b0 : decide (x7_1 < (a0.size : Int)) = false := decide_eq_false c3
        clear c3
        obtain ⟨t185, A150, H⟩ := Option.bind_eq_some_iff.mp H
        try dsimp only at H
        have A15 := Aside0.mk A150
        clear A150
        obtain rfl := Option.some.inj H
        go_wp2_with (first | ((with_reducible refine gate_callee (f := 102) rfl ?_); refine goesL_ (some 36) rfl rfl Tryz.func102 (by kernel_rfl) rfl #[.string x5_1] rfl bkA ?_; (with_reducible refine (reredosref01_bare.calls k1 x5_1 t185 _ A15.out).mono ?_); rintro e w' ⟨rfl, ⟨nd, rfl⟩⟩; refine ⟨_, rfl, ?_⟩))
        go_ret
        exact ⟨bkE, bkB⟩
/-! ### reredosref01_sum: function 75 -/
def reredosref01_sum.f (k : Nat) (a0 : ByteArray) (a1 : ByteArray) : Option (ByteArray) := (reredosref01_low.f a0).bind fun t194 => ((reredosref01_low.f a1).bind fun t195 => (if (t194 == t195) = true then ((reredosref01_size.f a0).bind fun t196 => ((reredosref01_size.f a1).bind fun t197 => ((reredosref01_plus.f k t196 t197).bind fun t198 => ((reredosref01_low.f a0).bind fun t199 => ((reredosref01_signed.f k t198 t199).bind fun t200 => (some t200)))))) else ((reredosref01_size.f a0).bind fun t201 => ((reredosref01_size.f a1).bind fun t202 => ((reredosref01_more.f k t201 t202).bind fun t203 => (if t203 ≥ 0 then ((reredosref01_size.f a0).bind fun t204 => ((reredosref01_size.f a1).bind fun t205 => ((reredosref01_minus.f k t204 t205).bind fun t206 => ((reredosref01_low.f a0).bind fun t207 => ((reredosref01_signed.f k t206 t207).bind fun t208 => (some t208)))))) else ((reredosref01_size.f a1).bind fun t209 => ((reredosref01_size.f a0).bind fun t210 => ((reredosref01_minus.f k t209 t210).bind fun t211 => ((reredosref01_low.f a1).bind fun t212 => ((reredosref01_signed.f k t211 t212).bind fun t213 => (some t213))))))))))))
set_option maxHeartbeats 8000000 in
set_option maxRecDepth 100000 in
theorem reredosref01_sum.calls (k : Nat) (a0 : ByteArray) (a1 : ByteArray) (r : ByteArray) (w : World) (h : reredosref01_sum.f k a0 a1 = some r) :
    Calls Tryz.prog 75 #[.string a0, .string a1] w fun e w' => e = .returned (.string r) ∧ Below w.heap.size w w' := by
  have HB := Aside0.mk (Below.refl w.heap.size w)
  have H : ((reredosref01_low.f a0).bind fun t194 => ((reredosref01_low.f a1).bind fun t195 => (if (t194 == t195) = true then ((reredosref01_size.f a0).bind fun t196 => ((reredosref01_size.f a1).bind fun t197 => ((reredosref01_plus.f k t196 t197).bind fun t198 => ((reredosref01_low.f a0).bind fun t199 => ((reredosref01_signed.f k t198 t199).bind fun t200 => (some t200)))))) else ((reredosref01_size.f a0).bind fun t201 => ((reredosref01_size.f a1).bind fun t202 => ((reredosref01_more.f k t201 t202).bind fun t203 => (if t203 ≥ 0 then ((reredosref01_size.f a0).bind fun t204 => ((reredosref01_size.f a1).bind fun t205 => ((reredosref01_minus.f k t204 t205).bind fun t206 => ((reredosref01_low.f a0).bind fun t207 => ((reredosref01_signed.f k t206 t207).bind fun t208 => (some t208)))))) else ((reredosref01_size.f a1).bind fun t209 => ((reredosref01_size.f a0).bind fun t210 => ((reredosref01_minus.f k t209 t210).bind fun t211 => ((reredosref01_low.f a1).bind fun t212 => ((reredosref01_signed.f k t211 t212).bind fun t213 => (some t213))))))))))))) = some r := h
  clear h
  obtain ⟨t194, A30, H⟩ := Option.bind_eq_some_iff.mp H
  try dsimp only at H
  have A3 := Aside0.mk A30
  clear A30
  obtain ⟨t195, A40, H⟩ := Option.bind_eq_some_iff.mp H
  try dsimp only at H
  have A4 := Aside0.mk A40
  clear A40
  by_cases c5 : (t194 == t195) = true
  · rw [if_pos c5] at H
    have c5b0 : (t194 == t195) = true := c5
    (try (have c5b1 : decide (t194 = t195) = true := by simpa using c5))
    (try (have c5b2 : (t194 == t195) = true := by simpa using c5))
    clear c5
    obtain ⟨t196, A60, H⟩ := Option.bind_eq_some_iff.mp H
    try dsimp only at H
    have A6 := Aside0.mk A60
    clear A60
    obtain ⟨t197, A70, H⟩ := Option.bind_eq_some_iff.mp H
    try dsimp only at H
    have A7 := Aside0.mk A70
    clear A70
    obtain ⟨t198, A80, H⟩ := Option.bind_eq_some_iff.mp H
    try dsimp only at H
    have A8 := Aside0.mk A80
    clear A80
    obtain ⟨t199, A90, H⟩ := Option.bind_eq_some_iff.mp H
    try dsimp only at H
    have A9 := Aside0.mk A90
    clear A90
    obtain ⟨t200, A100, H⟩ := Option.bind_eq_some_iff.mp H
    try dsimp only at H
    have A10 := Aside0.mk A100
    clear A100
    obtain rfl := Option.some.inj H
    go_enter Tryz.func75, Tryz.ntmps75
    go_wp2_with (first | ((with_reducible refine gate_callee (f := 80) rfl ?_); refine goesL_ (some 6) rfl rfl Tryz.func80 (by kernel_rfl) rfl #[.string a0] rfl bkA ?_; (with_reducible refine (reredosref01_low.calls a0 t194 _ A3.out).mono ?_); rintro e w' ⟨rfl, ⟨nd, rfl⟩⟩; refine ⟨_, rfl, ?_⟩) | ((with_reducible refine gate_callee (f := 80) rfl ?_); refine goesL_ (some 8) rfl rfl Tryz.func80 (by kernel_rfl) rfl #[.string a1] rfl bkA ?_; (with_reducible refine (reredosref01_low.calls a1 t195 _ A4.out).mono ?_); rintro e w' ⟨rfl, ⟨nd, rfl⟩⟩; refine ⟨_, rfl, ?_⟩) | ((with_reducible refine gate_callee (f := 97) rfl ?_); refine goesL_ (some 11) rfl rfl Tryz.func97 (by kernel_rfl) rfl #[.string a0] rfl bkA ?_; (with_reducible refine (reredosref01_size.calls a0 t196 _ A6.out).mono ?_); rintro e w' ⟨rfl, ⟨nd, rfl⟩⟩; refine ⟨_, rfl, ?_⟩) | ((with_reducible refine gate_callee (f := 97) rfl ?_); refine goesL_ (some 13) rfl rfl Tryz.func97 (by kernel_rfl) rfl #[.string a1] rfl bkA ?_; (with_reducible refine (reredosref01_size.calls a1 t197 _ A7.out).mono ?_); rintro e w' ⟨rfl, ⟨nd, rfl⟩⟩; refine ⟨_, rfl, ?_⟩) | ((with_reducible refine gate_callee (f := 99) rfl ?_); refine goesL_ (some 14) rfl rfl Tryz.func99 (by kernel_rfl) rfl #[.string t196, .string t197] rfl bkA ?_; (with_reducible refine (reredosref01_plus.calls k t196 t197 t198 _ A8.out).mono ?_); rintro e w11 ⟨rfl, hb⟩; refine ⟨_, rfl, ?_⟩; replace HB := bkS hb; clear hb; (try clear hb2); (try clear hk); (try clear hi)) | ((with_reducible refine gate_callee (f := 80) rfl ?_); refine goesL_ (some 16) rfl rfl Tryz.func80 (by kernel_rfl) rfl #[.string a0] rfl bkA ?_; (with_reducible refine (reredosref01_low.calls a0 t199 _ A9.out).mono ?_); rintro e w' ⟨rfl, ⟨nd, rfl⟩⟩; refine ⟨_, rfl, ?_⟩) | ((with_reducible refine gate_callee (f := 98) rfl ?_); refine goesL_ (some 17) rfl rfl Tryz.func98 (by kernel_rfl) rfl #[.string t198, .bool t199] rfl bkA ?_; (with_reducible refine (reredosref01_signed.calls k t198 t199 t200 _ A10.out).mono ?_); rintro e w' ⟨rfl, ⟨nd, rfl⟩⟩; refine ⟨_, rfl, ?_⟩))
    go_ret
    exact ⟨bkE, bkB⟩
  · rw [if_neg c5] at H
    have c5b0 : (t194 == t195) = false := by simpa using c5
    (try (have c5b1 : decide (t194 = t195) = false := by simpa using c5))
    (try (have c5b2 : (t194 == t195) = false := by simpa using c5))
    (try (have c5b3 : ¬ (t194 = t195) := by simpa using c5))
    clear c5
    obtain ⟨t201, A120, H⟩ := Option.bind_eq_some_iff.mp H
    try dsimp only at H
    have A12 := Aside0.mk A120
    clear A120
    obtain ⟨t202, A130, H⟩ := Option.bind_eq_some_iff.mp H
    try dsimp only at H
    have A13 := Aside0.mk A130
    clear A130
    obtain ⟨t203, A140, H⟩ := Option.bind_eq_some_iff.mp H
    try dsimp only at H
    have A14 := Aside0.mk A140
    clear A140
    by_cases c15 : t203 ≥ 0
    · rw [if_pos c15] at H
      have c15b0 : decide (0 ≤ t203) = true := decide_eq_true c15
      clear c15
      obtain ⟨t204, A160, H⟩ := Option.bind_eq_some_iff.mp H
      try dsimp only at H
      have A16 := Aside0.mk A160
      clear A160
      obtain ⟨t205, A170, H⟩ := Option.bind_eq_some_iff.mp H
      try dsimp only at H
      have A17 := Aside0.mk A170
      clear A170
      obtain ⟨t206, A180, H⟩ := Option.bind_eq_some_iff.mp H
      try dsimp only at H
      have A18 := Aside0.mk A180
      clear A180
      obtain ⟨t207, A190, H⟩ := Option.bind_eq_some_iff.mp H
      try dsimp only at H
      have A19 := Aside0.mk A190
      clear A190
      obtain ⟨t208, A200, H⟩ := Option.bind_eq_some_iff.mp H
      try dsimp only at H
      have A20 := Aside0.mk A200
      clear A200
      obtain rfl := Option.some.inj H
      go_enter Tryz.func75, Tryz.ntmps75
      go_wp2_with (first | ((with_reducible refine gate_callee (f := 80) rfl ?_); refine goesL_ (some 6) rfl rfl Tryz.func80 (by kernel_rfl) rfl #[.string a0] rfl bkA ?_; (with_reducible refine (reredosref01_low.calls a0 t194 _ A3.out).mono ?_); rintro e w' ⟨rfl, ⟨nd, rfl⟩⟩; refine ⟨_, rfl, ?_⟩) | ((with_reducible refine gate_callee (f := 80) rfl ?_); refine goesL_ (some 8) rfl rfl Tryz.func80 (by kernel_rfl) rfl #[.string a1] rfl bkA ?_; (with_reducible refine (reredosref01_low.calls a1 t195 _ A4.out).mono ?_); rintro e w' ⟨rfl, ⟨nd, rfl⟩⟩; refine ⟨_, rfl, ?_⟩) | ((with_reducible refine gate_callee (f := 97) rfl ?_); refine goesL_ (some 19) rfl rfl Tryz.func97 (by kernel_rfl) rfl #[.string a0] rfl bkA ?_; (with_reducible refine (reredosref01_size.calls a0 t201 _ A12.out).mono ?_); rintro e w' ⟨rfl, ⟨nd, rfl⟩⟩; refine ⟨_, rfl, ?_⟩) | ((with_reducible refine gate_callee (f := 97) rfl ?_); refine goesL_ (some 21) rfl rfl Tryz.func97 (by kernel_rfl) rfl #[.string a1] rfl bkA ?_; (with_reducible refine (reredosref01_size.calls a1 t202 _ A13.out).mono ?_); rintro e w' ⟨rfl, ⟨nd, rfl⟩⟩; refine ⟨_, rfl, ?_⟩) | ((with_reducible refine gate_callee (f := 100) rfl ?_); refine goesL_ (some 22) rfl rfl Tryz.func100 (by kernel_rfl) rfl #[.string t201, .string t202] rfl bkA ?_; (with_reducible refine (reredosref01_more.calls k t201 t202 t203 _ A14.out).mono ?_); rintro e w' ⟨rfl, ⟨nd, rfl⟩⟩; refine ⟨_, rfl, ?_⟩) | ((with_reducible refine gate_callee (f := 97) rfl ?_); refine goesL_ (some 25) rfl rfl Tryz.func97 (by kernel_rfl) rfl #[.string a0] rfl bkA ?_; (with_reducible refine (reredosref01_size.calls a0 t204 _ A16.out).mono ?_); rintro e w' ⟨rfl, ⟨nd, rfl⟩⟩; refine ⟨_, rfl, ?_⟩) | ((with_reducible refine gate_callee (f := 97) rfl ?_); refine goesL_ (some 27) rfl rfl Tryz.func97 (by kernel_rfl) rfl #[.string a1] rfl bkA ?_; (with_reducible refine (reredosref01_size.calls a1 t205 _ A17.out).mono ?_); rintro e w' ⟨rfl, ⟨nd, rfl⟩⟩; refine ⟨_, rfl, ?_⟩) | ((with_reducible refine gate_callee (f := 101) rfl ?_); refine goesL_ (some 28) rfl rfl Tryz.func101 (by kernel_rfl) rfl #[.string t204, .string t205] rfl bkA ?_; (with_reducible refine (reredosref01_minus.calls k t204 t205 t206 _ A18.out).mono ?_); rintro e w21 ⟨rfl, hb⟩; refine ⟨_, rfl, ?_⟩; replace HB := bkS hb; clear hb; (try clear hb2); (try clear hk); (try clear hi)) | ((with_reducible refine gate_callee (f := 80) rfl ?_); refine goesL_ (some 30) rfl rfl Tryz.func80 (by kernel_rfl) rfl #[.string a0] rfl bkA ?_; (with_reducible refine (reredosref01_low.calls a0 t207 _ A19.out).mono ?_); rintro e w' ⟨rfl, ⟨nd, rfl⟩⟩; refine ⟨_, rfl, ?_⟩) | ((with_reducible refine gate_callee (f := 98) rfl ?_); refine goesL_ (some 31) rfl rfl Tryz.func98 (by kernel_rfl) rfl #[.string t206, .bool t207] rfl bkA ?_; (with_reducible refine (reredosref01_signed.calls k t206 t207 t208 _ A20.out).mono ?_); rintro e w' ⟨rfl, ⟨nd, rfl⟩⟩; refine ⟨_, rfl, ?_⟩))
      go_ret
      exact ⟨bkE, bkB⟩
    · rw [if_neg c15] at H
      have c15b0 : decide (0 ≤ t203) = false := decide_eq_false c15
      clear c15
      obtain ⟨t209, A220, H⟩ := Option.bind_eq_some_iff.mp H
      try dsimp only at H
      have A22 := Aside0.mk A220
      clear A220
      obtain ⟨t210, A230, H⟩ := Option.bind_eq_some_iff.mp H
      try dsimp only at H
      have A23 := Aside0.mk A230
      clear A230
      obtain ⟨t211, A240, H⟩ := Option.bind_eq_some_iff.mp H
      try dsimp only at H
      have A24 := Aside0.mk A240
      clear A240
      obtain ⟨t212, A250, H⟩ := Option.bind_eq_some_iff.mp H
      try dsimp only at H
      have A25 := Aside0.mk A250
      clear A250
      obtain ⟨t213, A260, H⟩ := Option.bind_eq_some_iff.mp H
      try dsimp only at H
      have A26 := Aside0.mk A260
      clear A260
      obtain rfl := Option.some.inj H
      go_enter Tryz.func75, Tryz.ntmps75
      go_wp2_with (first | ((with_reducible refine gate_callee (f := 80) rfl ?_); refine goesL_ (some 6) rfl rfl Tryz.func80 (by kernel_rfl) rfl #[.string a0] rfl bkA ?_; (with_reducible refine (reredosref01_low.calls a0 t194 _ A3.out).mono ?_); rintro e w' ⟨rfl, ⟨nd, rfl⟩⟩; refine ⟨_, rfl, ?_⟩) | ((with_reducible refine gate_callee (f := 80) rfl ?_); refine goesL_ (some 8) rfl rfl Tryz.func80 (by kernel_rfl) rfl #[.string a1] rfl bkA ?_; (with_reducible refine (reredosref01_low.calls a1 t195 _ A4.out).mono ?_); rintro e w' ⟨rfl, ⟨nd, rfl⟩⟩; refine ⟨_, rfl, ?_⟩) | ((with_reducible refine gate_callee (f := 97) rfl ?_); refine goesL_ (some 19) rfl rfl Tryz.func97 (by kernel_rfl) rfl #[.string a0] rfl bkA ?_; (with_reducible refine (reredosref01_size.calls a0 t201 _ A12.out).mono ?_); rintro e w' ⟨rfl, ⟨nd, rfl⟩⟩; refine ⟨_, rfl, ?_⟩) | ((with_reducible refine gate_callee (f := 97) rfl ?_); refine goesL_ (some 21) rfl rfl Tryz.func97 (by kernel_rfl) rfl #[.string a1] rfl bkA ?_; (with_reducible refine (reredosref01_size.calls a1 t202 _ A13.out).mono ?_); rintro e w' ⟨rfl, ⟨nd, rfl⟩⟩; refine ⟨_, rfl, ?_⟩) | ((with_reducible refine gate_callee (f := 100) rfl ?_); refine goesL_ (some 22) rfl rfl Tryz.func100 (by kernel_rfl) rfl #[.string t201, .string t202] rfl bkA ?_; (with_reducible refine (reredosref01_more.calls k t201 t202 t203 _ A14.out).mono ?_); rintro e w' ⟨rfl, ⟨nd, rfl⟩⟩; refine ⟨_, rfl, ?_⟩) | ((with_reducible refine gate_callee (f := 97) rfl ?_); refine goesL_ (some 33) rfl rfl Tryz.func97 (by kernel_rfl) rfl #[.string a1] rfl bkA ?_; (with_reducible refine (reredosref01_size.calls a1 t209 _ A22.out).mono ?_); rintro e w' ⟨rfl, ⟨nd, rfl⟩⟩; refine ⟨_, rfl, ?_⟩) | ((with_reducible refine gate_callee (f := 97) rfl ?_); refine goesL_ (some 35) rfl rfl Tryz.func97 (by kernel_rfl) rfl #[.string a0] rfl bkA ?_; (with_reducible refine (reredosref01_size.calls a0 t210 _ A23.out).mono ?_); rintro e w' ⟨rfl, ⟨nd, rfl⟩⟩; refine ⟨_, rfl, ?_⟩) | ((with_reducible refine gate_callee (f := 101) rfl ?_); refine goesL_ (some 36) rfl rfl Tryz.func101 (by kernel_rfl) rfl #[.string t209, .string t210] rfl bkA ?_; (with_reducible refine (reredosref01_minus.calls k t209 t210 t211 _ A24.out).mono ?_); rintro e w27 ⟨rfl, hb⟩; refine ⟨_, rfl, ?_⟩; replace HB := bkS hb; clear hb; (try clear hb2); (try clear hk); (try clear hi)) | ((with_reducible refine gate_callee (f := 80) rfl ?_); refine goesL_ (some 38) rfl rfl Tryz.func80 (by kernel_rfl) rfl #[.string a1] rfl bkA ?_; (with_reducible refine (reredosref01_low.calls a1 t212 _ A25.out).mono ?_); rintro e w' ⟨rfl, ⟨nd, rfl⟩⟩; refine ⟨_, rfl, ?_⟩) | ((with_reducible refine gate_callee (f := 98) rfl ?_); refine goesL_ (some 39) rfl rfl Tryz.func98 (by kernel_rfl) rfl #[.string t211, .bool t212] rfl bkA ?_; (with_reducible refine (reredosref01_signed.calls k t211 t212 t213 _ A26.out).mono ?_); rintro e w' ⟨rfl, ⟨nd, rfl⟩⟩; refine ⟨_, rfl, ?_⟩))
      go_ret
      exact ⟨bkE, bkB⟩
end Go.Proofs.YtaidmohjnbibiaaGreatDoor.K
end
