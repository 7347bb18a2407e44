/- What the law leans on, part 14: declarations of several texts of ours, in their order. -/
import Derived.Test.YtaidmohjnbibiaaGreatDoorXE7
import Derived.Test.YtaidmohjnbibiaaGreatDoorXE10
import Derived.Test.YtaidmohjnbibiaaGreatDoorXE11
import Derived.Test.YtaidmohjnbibiaaGreatDoorXE12
section
namespace Go.Proofs.YtaidmohjnbibiaaGreatDoor.K
open Go.RowKit Go.Proofs.YtaidmohjnbibiaaGreatDoorW.PrintWords Go.Proofs.YtaidmohjnbibiaaGreatDoorW.PrintLast Go.Proofs.YtaidmohjnbibiaaGreatDoorW.PrintMore Go.Proofs.YtaidmohjnbibiaaGreatDoor.B
attribute [local go_sem] max2_int min2_int max_two min_two max_three min_three max_four min_four
set_option linter.unusedVariables false
set_option linter.unusedSimpArgs false
/-! ### reredosref01_Add: function 48 -/
def reredosref01_Add.j0 : Nat → ByteArray → ByteArray → Bool → Option (ByteArray × Int)
  | 0, _, _, _ => none
  | k + 1, x0, x1, x13 => if x13 = true then (some ((⟨#[]⟩ : ByteArray), 1)) else ((reredosref01_sum.f k x0 x1).bind fun t237 => ((reredosref01_told.f t237).bind fun bt238 => (some (bt238.1, bt238.2))))
def reredosref01_Add.f (k : Nat) (a0 : ByteArray) (a1 : ByteArray) : Option (ByteArray × Int) := (reredosref01_May.f k a0).bind fun t235 => (if t235 = true then ((reredosref01_May.f k a1).bind fun t236 => (reredosref01_Add.j0 k a0 a1 (!t236))) else (reredosref01_Add.j0 k a0 a1 true))
set_option maxHeartbeats 8000000 in
set_option maxRecDepth 100000 in
theorem reredosref01_Add.calls (k : Nat) (a0 : ByteArray) (a1 : ByteArray) (r1 : ByteArray) (r2 : Int) (w : World) (h : reredosref01_Add.f k a0 a1 = some (r1, r2)) :
    Calls Tryz.prog 48 #[.string a0, .string a1] w fun e w' => e = .returned (.tuple #[.string r1, .int .i64 r2]) ∧ Below w.heap.size w w' := by
  have HB := Aside0.mk (Below.refl w.heap.size w)
  have H : ((reredosref01_May.f k a0).bind fun t235 => (if t235 = true then ((reredosref01_May.f k a1).bind fun t236 => (reredosref01_Add.j0 k a0 a1 (!t236))) else (reredosref01_Add.j0 k a0 a1 true))) = some (r1, r2) := h
  clear h
  have HC3 := Aside0.mk H
  clear H
  go_enter Tryz.func48, Tryz.ntmps48
  go_upto_region 1 with (fail)
  go_cut [13] (fun v13 wc => ∃ (kq : Nat) (x13_2 : Bool), v13 = .bool x13_2 ∧ Aside0 (reredosref01_Add.j0 kq a0 a1 x13_2 = some (r1, r2)) ∧ Aside0 (kq ≤ k) ∧ Aside0 (Below w.heap.size w wc))
  case first =>
    have H := HC3.out
    clear HC3
    obtain ⟨t235, A40, H⟩ := Option.bind_eq_some_iff.mp H
    try dsimp only at H
    have A4 := Aside0.mk A40
    clear A40
    by_cases c5 : t235 = true
    · subst c5
      rw [if_pos rfl] at H
      obtain ⟨t236, A60, H⟩ := Option.bind_eq_some_iff.mp H
      try dsimp only at H
      have A6 := Aside0.mk A60
      clear A60
      have H' := Aside0.mk H
      clear H
      go_wp2_with (first | ((with_reducible refine gate_callee (f := 46) rfl ?_); refine goesL_ (some 7) rfl rfl Tryz.func46 (by kernel_rfl) rfl #[.string a0] rfl bkA ?_; (with_reducible refine (reredosref01_May.calls k a0 true _ A4.out).mono ?_); rintro e w' ⟨rfl, ⟨nd, rfl⟩⟩; refine ⟨_, rfl, ?_⟩) | (go_at_call 46; (with_reducible refine (reredosref01_May.calls k a1 t236 _ A6.out).mono ?_); rintro e w' ⟨rfl, ⟨nd, rfl⟩⟩))
      go_meet
      case rel => exact ⟨_, (!t236), bkF, H', ⟨by first | omega | exact Nat.le_refl _⟩, ⟨bkB⟩⟩
    · replace c5 := Bool.eq_false_iff.mpr c5
      subst c5
      rw [if_neg Bool.false_ne_true] at H
      have H' := Aside0.mk H
      clear H
      go_wp2_with (first | ((with_reducible refine gate_callee (f := 46) rfl ?_); refine goesL_ (some 7) rfl rfl Tryz.func46 (by kernel_rfl) rfl #[.string a0] rfl bkA ?_; (with_reducible refine (reredosref01_May.calls k a0 false _ A4.out).mono ?_); rintro e w' ⟨rfl, ⟨nd, rfl⟩⟩; refine ⟨_, rfl, ?_⟩))
      go_meet
      case rel => exact ⟨_, (true), bkF, H', ⟨by first | omega | exact Nat.le_refl _⟩, ⟨bkB⟩⟩
  case rest =>
    clear HC3
    try clear p2
    try clear c4
    try clear c5
    obtain ⟨kq, x13_2, rfl, HA, HJ2, HB⟩ := hcut
    cases kq with
    | zero => exact absurd HA.out (by simp [reredosref01_Add.j0])
    | succ kj2 =>
      have H := HA.out
      clear HA
      simp only [reredosref01_Add.j0] at H
      by_cases c7 : x13_2 = true
      · subst c7
        rw [if_pos rfl] at H
        simp only [Option.some.injEq, Prod.mk.injEq] at H
        obtain ⟨rfl, rfl⟩ := H
        go_wp2
        go_ret2
        exact ⟨bkE, bkB⟩
      · replace c7 := Bool.eq_false_iff.mpr c7
        subst c7
        rw [if_neg Bool.false_ne_true] at H
        obtain ⟨t237, A80, H⟩ := Option.bind_eq_some_iff.mp H
        try dsimp only at H
        have A8 := Aside0.mk A80
        clear A80
        obtain ⟨⟨t238, t239⟩, A90, H⟩ := Option.bind_eq_some_iff.mp H
        try dsimp only at H
        have A9 := Aside0.mk A90
        clear A90
        simp only [Option.some.injEq, Prod.mk.injEq] at H
        obtain ⟨rfl, rfl⟩ := H
        go_wp2_with (first | ((with_reducible refine gate_callee (f := 75) rfl ?_); refine goesL_ (some 16) rfl rfl Tryz.func75 (by kernel_rfl) rfl #[.string a0, .string a1] rfl bkA ?_; (with_reducible refine (reredosref01_sum.calls kj2 a0 a1 t237 _ A8.out).mono ?_); rintro e w10 ⟨rfl, hb⟩; refine ⟨_, rfl, ?_⟩; replace HB := bkS hb; clear hb; (try clear hb2); (try clear hk); (try clear hi)) | ((with_reducible refine gate_callee (f := 77) rfl ?_); refine goesL_ (some 17) rfl rfl Tryz.func77 (by kernel_rfl) rfl #[.string t237] rfl bkA ?_; (with_reducible refine (reredosref01_told.calls t237 t238 t239 _ A9.out).mono ?_); rintro e w' ⟨rfl, ⟨nd, rfl⟩⟩; refine ⟨_, rfl, ?_⟩))
        go_ret2
        exact ⟨bkE, bkB⟩
/-! ### reredosref01_Sub: function 49 -/
def reredosref01_Sub.j0 : Nat → ByteArray → ByteArray → Bool → Option (ByteArray × Int)
  | 0, _, _, _ => none
  | k + 1, x0, x1, x13 => if x13 = true then (some ((⟨#[]⟩ : ByteArray), 1)) else ((reredosref01_turned.f k x1).bind fun t242 => ((reredosref01_sum.f k x0 t242).bind fun t243 => ((reredosref01_told.f t243).bind fun bt244 => (some (bt244.1, bt244.2)))))
def reredosref01_Sub.f (k : Nat) (a0 : ByteArray) (a1 : ByteArray) : Option (ByteArray × Int) := (reredosref01_May.f k a0).bind fun t240 => (if t240 = true then ((reredosref01_May.f k a1).bind fun t241 => (reredosref01_Sub.j0 k a0 a1 (!t241))) else (reredosref01_Sub.j0 k a0 a1 true))
set_option maxHeartbeats 8000000 in
set_option maxRecDepth 100000 in
theorem reredosref01_Sub.calls (k : Nat) (a0 : ByteArray) (a1 : ByteArray) (r1 : ByteArray) (r2 : Int) (w : World) (h : reredosref01_Sub.f k a0 a1 = some (r1, r2)) :
    Calls Tryz.prog 49 #[.string a0, .string a1] w fun e w' => e = .returned (.tuple #[.string r1, .int .i64 r2]) ∧ Below w.heap.size w w' := by
  have HB := Aside0.mk (Below.refl w.heap.size w)
  have H : ((reredosref01_May.f k a0).bind fun t240 => (if t240 = true then ((reredosref01_May.f k a1).bind fun t241 => (reredosref01_Sub.j0 k a0 a1 (!t241))) else (reredosref01_Sub.j0 k a0 a1 true))) = some (r1, r2) := h
  clear h
  have HC3 := Aside0.mk H
  clear H
  go_enter Tryz.func49, Tryz.ntmps49
  go_upto_region 1 with (fail)
  go_cut [13] (fun v13 wc => ∃ (kq : Nat) (x13_2 : Bool), v13 = .bool x13_2 ∧ Aside0 (reredosref01_Sub.j0 kq a0 a1 x13_2 = some (r1, r2)) ∧ Aside0 (kq ≤ k) ∧ Aside0 (Below w.heap.size w wc))
  case first =>
    have H := HC3.out
    clear HC3
    obtain ⟨t240, A40, H⟩ := Option.bind_eq_some_iff.mp H
    try dsimp only at H
    have A4 := Aside0.mk A40
    clear A40
    by_cases c5 : t240 = true
    · subst c5
      rw [if_pos rfl] at H
      obtain ⟨t241, A60, H⟩ := Option.bind_eq_some_iff.mp H
      try dsimp only at H
      have A6 := Aside0.mk A60
      clear A60
      have H' := Aside0.mk H
      clear H
      go_wp2_with (first | ((with_reducible refine gate_callee (f := 46) rfl ?_); refine goesL_ (some 7) rfl rfl Tryz.func46 (by kernel_rfl) rfl #[.string a0] rfl bkA ?_; (with_reducible refine (reredosref01_May.calls k a0 true _ A4.out).mono ?_); rintro e w' ⟨rfl, ⟨nd, rfl⟩⟩; refine ⟨_, rfl, ?_⟩) | (go_at_call 46; (with_reducible refine (reredosref01_May.calls k a1 t241 _ A6.out).mono ?_); rintro e w' ⟨rfl, ⟨nd, rfl⟩⟩))
      go_meet
      case rel => exact ⟨_, (!t241), bkF, H', ⟨by first | omega | exact Nat.le_refl _⟩, ⟨bkB⟩⟩
    · replace c5 := Bool.eq_false_iff.mpr c5
      subst c5
      rw [if_neg Bool.false_ne_true] at H
      have H' := Aside0.mk H
      clear H
      go_wp2_with (first | ((with_reducible refine gate_callee (f := 46) rfl ?_); refine goesL_ (some 7) rfl rfl Tryz.func46 (by kernel_rfl) rfl #[.string a0] rfl bkA ?_; (with_reducible refine (reredosref01_May.calls k a0 false _ A4.out).mono ?_); rintro e w' ⟨rfl, ⟨nd, rfl⟩⟩; refine ⟨_, rfl, ?_⟩))
      go_meet
      case rel => exact ⟨_, (true), bkF, H', ⟨by first | omega | exact Nat.le_refl _⟩, ⟨bkB⟩⟩
  case rest =>
    clear HC3
    try clear p2
    try clear c4
    try clear c5
    obtain ⟨kq, x13_2, rfl, HA, HJ2, HB⟩ := hcut
    cases kq with
    | zero => exact absurd HA.out (by simp [reredosref01_Sub.j0])
    | succ kj2 =>
      have H := HA.out
      clear HA
      simp only [reredosref01_Sub.j0] at H
      by_cases c7 : x13_2 = true
      · subst c7
        rw [if_pos rfl] at H
        simp only [Option.some.injEq, Prod.mk.injEq] at H
        obtain ⟨rfl, rfl⟩ := H
        go_wp2
        go_ret2
        exact ⟨bkE, bkB⟩
      · replace c7 := Bool.eq_false_iff.mpr c7
        subst c7
        rw [if_neg Bool.false_ne_true] at H
        obtain ⟨t242, A80, H⟩ := Option.bind_eq_some_iff.mp H
        try dsimp only at H
        have A8 := Aside0.mk A80
        clear A80
        obtain ⟨t243, A90, H⟩ := Option.bind_eq_some_iff.mp H
        try dsimp only at H
        have A9 := Aside0.mk A90
        clear A90
        obtain ⟨⟨t244, t245⟩, A100, H⟩ := Option.bind_eq_some_iff.mp H
        try dsimp only at H
        have A10 := Aside0.mk A100
        clear A100
        simp only [Option.some.injEq, Prod.mk.injEq] at H
        obtain ⟨rfl, rfl⟩ := H
        go_wp2_with (first | ((with_reducible refine gate_callee (f := 76) rfl ?_); refine goesL_ (some 16) rfl rfl Tryz.func76 (by kernel_rfl) rfl #[.string a1] rfl bkA ?_; (with_reducible refine (reredosref01_turned.calls kj2 a1 t242 _ A8.out).mono ?_); rintro e w' ⟨rfl, ⟨nd, rfl⟩⟩; refine ⟨_, rfl, ?_⟩) | ((with_reducible refine gate_callee (f := 75) rfl ?_); refine goesL_ (some 17) rfl rfl Tryz.func75 (by kernel_rfl) rfl #[.string a0, .string t242] rfl bkA ?_; (with_reducible refine (reredosref01_sum.calls kj2 a0 t242 t243 _ A9.out).mono ?_); rintro e w11 ⟨rfl, hb⟩; refine ⟨_, rfl, ?_⟩; replace HB := bkS hb; clear hb; (try clear hb2); (try clear hk); (try clear hi)) | ((with_reducible refine gate_callee (f := 77) rfl ?_); refine goesL_ (some 18) rfl rfl Tryz.func77 (by kernel_rfl) rfl #[.string t243] rfl bkA ?_; (with_reducible refine (reredosref01_told.calls t243 t244 t245 _ A10.out).mono ?_); rintro e w' ⟨rfl, ⟨nd, rfl⟩⟩; refine ⟨_, rfl, ?_⟩))
        go_ret2
        exact ⟨bkE, bkB⟩
/-! ### reredosref01_product: function 78 -/
mutual
def reredosref01_product.l0 : Nat → ByteArray → ByteArray → ByteArray → ByteArray → Int → Option (ByteArray)
  | 0, _, _, _, _, _ => none
  | k + 1, x0, x1, x5, x6, x7 => if x7 < (x6.size : Int) then (if x5.size + 1 ≤ 9223372036854775807 then ((reredosref01_bare.f k (x5 ++ (⟨#[48]⟩ : ByteArray))).bind fun t250 => (reredosref01_product.l1 k x0 x1 t250 x6 x7 0)) else (none)) else ((reredosref01_low.f x0).bind fun t247 => ((reredosref01_low.f x1).bind fun t248 => ((reredosref01_signed.f k x5 (t247 != t248)).bind fun t249 => (some t249))))
def reredosref01_product.l1 : Nat → ByteArray → ByteArray → ByteArray → ByteArray → Int → Int → Option (ByteArray)
  | 0, _, _, _, _, _, _ => none
  | k + 1, x0, x1, x5, x6, x7, x8 => if 0 ≤ x7 then (if x7 < (x6.size : Int) then (if x8 < (((bt x6 x7) - 48) % 256) then ((reredosref01_size.f x0).bind fun t251 => ((reredosref01_plus.f k x5 t251).bind fun t252 => (reredosref01_product.l1 k x0 x1 t252 x6 x7 (wrap64 (x8 + 1))))) else (reredosref01_product.l0 k x0 x1 x5 x6 (wrap64 (x7 + 1)))) else (none)) else (none)
end
def reredosref01_product.f (k : Nat) (a0 : ByteArray) (a1 : ByteArray) : Option (ByteArray) := (reredosref01_size.f a1).bind fun t246 => (reredosref01_product.l0 k a0 a1 (⟨#[48]⟩ : ByteArray) t246 0)
set_option maxHeartbeats 8000000 in
set_option maxRecDepth 100000 in
theorem reredosref01_product.calls (k : Nat) (a0 : ByteArray) (a1 : ByteArray) (r : ByteArray) (w : World) (h : reredosref01_product.f k a0 a1 = some r) :
    Calls Tryz.prog 78 #[.string a0, .string a1] w fun e w' => e = .returned (.string r) ∧ Below w.heap.size w w' := by
  have HB := Aside0.mk (Below.refl w.heap.size w)
  have H : ((reredosref01_size.f a1).bind fun t246 => (reredosref01_product.l0 k a0 a1 (⟨#[48]⟩ : ByteArray) t246 0)) = some r := h
  clear h
  obtain ⟨t246, A30, H⟩ := Option.bind_eq_some_iff.mp H
  try dsimp only at H
  have A3 := Aside0.mk A30
  clear A30
  have H' := Aside0.mk H
  clear H
  go_enter Tryz.func78, Tryz.ntmps78
  go_wp2_with (first | ((with_reducible refine gate_callee (f := 97) rfl ?_); refine goesL_ (some 10) rfl rfl Tryz.func97 (by kernel_rfl) rfl #[.string a1] rfl bkA ?_; (with_reducible refine (reredosref01_size.calls a1 t246 _ A3.out).mono ?_); rintro e w' ⟨rfl, ⟨nd, rfl⟩⟩; refine ⟨_, rfl, ?_⟩))
  go_loopg [5, 7] k (fun kq v5 v7 w' => ∃ (x5_1 : ByteArray) (x7_1 : Int), v5 = .string x5_1 ∧ v7 = .int .i64 x7_1 ∧ Aside0 (reredosref01_product.l0 kq a0 a1 x5_1 t246 x7_1 = some r) ∧ Aside0 (kq ≤ k) ∧ Aside0 (Below w.heap.size w w'))
  case atStart => exact ⟨((⟨#[48]⟩ : ByteArray)), (0), bkF, bkF, H', ⟨Nat.le_refl _⟩, ⟨bkB⟩⟩
  case round =>
    clear H'
    try clear p2
    obtain ⟨x5_1, x7_1, rfl, rfl, HA, HK1, HB⟩ := hrel
    cases gk with
    | zero => exact absurd HA.out (by simp [reredosref01_product.l0])
    | succ k1 =>
      have H := HA.out
      clear HA
      simp only [reredosref01_product.l0] at H
      by_cases c4 : x7_1 < (t246.size : Int)
      · rw [if_pos c4] at H
        have c4b0 : decide (x7_1 < (t246.size : Int)) = true := decide_eq_true c4
        clear c4
        by_cases c5 : x5_1.size + 1 ≤ 9223372036854775807
        · rw [if_pos c5] at H
          have c5b0 := eq_true c5
          have c5b1 : decide (x5_1.size + 1 ≤ 9223372036854775807) = true := decide_eq_true c5
          try have c5b2 : (9223372036854775807 < x5_1.size + 1) = False := eq_false (Nat.not_lt.2 c5)
          obtain ⟨t250, A60, H⟩ := Option.bind_eq_some_iff.mp H
          try dsimp only at H
          have A6 := Aside0.mk A60
          clear A60
          have H' := Aside0.mk H
          clear H
          go_wp2_with (first | ((with_reducible refine gate_callee (f := 102) rfl ?_); refine goesL_ (some 19) rfl rfl Tryz.func102 (by kernel_rfl) rfl #[.string (x5_1 ++ (⟨#[48]⟩ : ByteArray))] rfl bkA ?_; (with_reducible refine (reredosref01_bare.calls k1 (x5_1 ++ (⟨#[48]⟩ : ByteArray)) t250 _ A6.out).mono ?_); rintro e w' ⟨rfl, ⟨nd, rfl⟩⟩; refine ⟨_, rfl, ?_⟩))
          go_loopg [5, 8] k1 (fun kq v5 v8 w' => ∃ (x5_2 : ByteArray) (x8_2 : Int), v5 = .string x5_2 ∧ v8 = .int .i64 x8_2 ∧ Aside0 (reredosref01_product.l1 kq a0 a1 x5_2 t246 x7_1 x8_2 = some r) ∧ Aside0 (kq ≤ k1) ∧ Aside0 (Below w.heap.size w w'))
          case atStart => exact ⟨(t250), (0), bkF, bkF, H', ⟨Nat.le_refl _⟩, ⟨bkB⟩⟩
          case round =>
            clear H'
            try clear c1
            try clear p2
            try clear c4
            try clear c4b0
            try clear c5
            try clear c5b0
            try clear c5b1
            try clear c5b2
            try clear p2
            obtain ⟨x5_2, x8_2, rfl, rfl, HA, HK2, HB⟩ := hrel
            cases gk with
            | zero => exact absurd HA.out (by simp [reredosref01_product.l1])
            | succ k2 =>
              have H := HA.out
              clear HA
              simp only [reredosref01_product.l1] at H
              by_cases c7 : 0 ≤ x7_1
              · rw [if_pos c7] at H
                have c7b0 : decide (0 ≤ x7_1) = true := decide_eq_true c7
                clear c7
                by_cases c8 : x7_1 < (t246.size : Int)
                · rw [if_pos c8] at H
                  have c8b0 : decide (x7_1 < (t246.size : Int)) = true := decide_eq_true c8
                  clear c8
                  by_cases c10 : x8_2 < (((bt t246 x7_1) - 48) % 256)
                  · rw [if_pos c10] at H
                    have c10b0 : decide (x8_2 < (((bt t246 x7_1) - 48) % 256)) = true := decide_eq_true c10
                    clear c10
                    obtain ⟨t251, A110, H⟩ := Option.bind_eq_some_iff.mp H
                    try dsimp only at H
                    have A11 := Aside0.mk A110
                    clear A110
                    obtain ⟨t252, A120, H⟩ := Option.bind_eq_some_iff.mp H
                    try dsimp only at H
                    have A12 := Aside0.mk A120
                    clear A120
                    have H' := Aside0.mk H
                    clear H
                    have p9 : 0 ≤ (x7_1 : Int) := of_decide_eq_true (by first | (with_reducible assumption) | assumption)
                    have q9 : x7_1 < (t246.size : Int) := of_decide_eq_true (by first | (with_reducible assumption) | assumption)
                    have hx9 := bt_at t246 x7_1
                    replace p9 := eq_true p9
                    replace q9 := eq_true q9
                    go_wp2_with (first | ((with_reducible refine gate_callee (f := 97) rfl ?_); refine goesL_ (some 31) rfl rfl Tryz.func97 (by kernel_rfl) rfl #[.string a0] rfl bkA ?_; (with_reducible refine (reredosref01_size.calls a0 t251 _ A11.out).mono ?_); rintro e w' ⟨rfl, ⟨nd, rfl⟩⟩; refine ⟨_, rfl, ?_⟩) | ((with_reducible refine gate_callee (f := 99) rfl ?_); refine goesL_ (some 32) rfl rfl Tryz.func99 (by kernel_rfl) rfl #[.string x5_2, .string t251] rfl bkA ?_; (with_reducible refine (reredosref01_plus.calls k2 x5_2 t251 t252 _ A12.out).mono ?_); rintro e w13 ⟨rfl, hb⟩; refine ⟨_, rfl, ?_⟩; replace HB := bkS hb; clear hb; (try clear hb2); (try clear hk); (try clear hi)))
                    go_roundg k2
                    case measure => have := HK1.out; have := HK2.out; omega
                    case rel => exact ⟨(t252), (wrap64 (x8_2 + 1)), bkF, bkF, H', ⟨by have := HK1.out; have := HK2.out; omega⟩, ⟨bkB⟩⟩
                  · rw [if_neg c10] at H
                    have c10b0 : decide (x8_2 < (((bt t246 x7_1) - 48) % 256)) = false := decide_eq_false c10
                    clear c10
                    have H' := Aside0.mk H
                    clear H
                    have p9 : 0 ≤ (x7_1 : Int) := of_decide_eq_true (by first | (with_reducible assumption) | assumption)
                    have q9 : x7_1 < (t246.size : Int) := of_decide_eq_true (by first | (with_reducible assumption) | assumption)
                    have hx9 := bt_at t246 x7_1
                    replace p9 := eq_true p9
                    replace q9 := eq_true q9
                    go_wp2
                    go_roundg k2
                    case measure => have := HK1.out; have := HK2.out; omega
                    case rel => exact ⟨(x5_2), (wrap64 (x7_1 + 1)), bkF, bkF, H', ⟨by have := HK1.out; have := HK2.out; omega⟩, ⟨bkB⟩⟩
                · rw [if_neg c8] at H
                  exact absurd H (by simp)
              · rw [if_neg c7] at H
                exact absurd H (by simp)
        · rw [if_neg c5] at H
          exact absurd H (by simp)
      · rw [if_neg c4] at H
        have c4b0 : decide (x7_1 < (t246.size : Int)) = false := decide_eq_false c4
        clear c4
        obtain ⟨t247, A140, H⟩ := Option.bind_eq_some_iff.mp H
        try dsimp only at H
        have A14 := Aside0.mk A140
        clear A140
        obtain ⟨t248, A150, H⟩ := Option.bind_eq_some_iff.mp H
        try dsimp only at H
        have A15 := Aside0.mk A150
        clear A150
        obtain ⟨t249, A160, H⟩ := Option.bind_eq_some_iff.mp H
        try dsimp only at H
        have A16 := Aside0.mk A160
        clear A160
        obtain rfl := Option.some.inj H
        go_wp2_with (first | ((with_reducible refine gate_callee (f := 80) rfl ?_); refine goesL_ (some 35) rfl rfl Tryz.func80 (by kernel_rfl) rfl #[.string a0] rfl bkA ?_; (with_reducible refine (reredosref01_low.calls a0 t247 _ A14.out).mono ?_); rintro e w' ⟨rfl, ⟨nd, rfl⟩⟩; refine ⟨_, rfl, ?_⟩) | ((with_reducible refine gate_callee (f := 80) rfl ?_); refine goesL_ (some 37) rfl rfl Tryz.func80 (by kernel_rfl) rfl #[.string a1] rfl bkA ?_; (with_reducible refine (reredosref01_low.calls a1 t248 _ A15.out).mono ?_); rintro e w' ⟨rfl, ⟨nd, rfl⟩⟩; refine ⟨_, rfl, ?_⟩) | ((with_reducible refine gate_callee (f := 98) rfl ?_); refine goesL_ (some 39) rfl rfl Tryz.func98 (by kernel_rfl) rfl #[.string x5_1, .bool (t247 != t248)] rfl bkA ?_; (with_reducible refine (reredosref01_signed.calls k1 x5_1 (t247 != t248) t249 _ A16.out).mono ?_); rintro e w' ⟨rfl, ⟨nd, rfl⟩⟩; refine ⟨_, rfl, ?_⟩))
        go_ret
        exact ⟨bkE, bkB⟩
/-! ### reredosref01_Mul: function 50 -/
def reredosref01_Mul.j0 : Nat → ByteArray → ByteArray → Bool → Option (ByteArray × Int)
  | 0, _, _, _ => none
  | k + 1, x0, x1, x13 => if x13 = true then (some ((⟨#[]⟩ : ByteArray), 1)) else ((reredosref01_product.f k x0 x1).bind fun t255 => ((reredosref01_told.f t255).bind fun bt256 => (some (bt256.1, bt256.2))))
def reredosref01_Mul.f (k : Nat) (a0 : ByteArray) (a1 : ByteArray) : Option (ByteArray × Int) := (reredosref01_May.f k a0).bind fun t253 => (if t253 = true then ((reredosref01_May.f k a1).bind fun t254 => (reredosref01_Mul.j0 k a0 a1 (!t254))) else (reredosref01_Mul.j0 k a0 a1 true))
set_option maxHeartbeats 8000000 in
set_option maxRecDepth 100000 in
theorem reredosref01_Mul.calls (k : Nat) (a0 : ByteArray) (a1 : ByteArray) (r1 : ByteArray) (r2 : Int) (w : World) (h : reredosref01_Mul.f k a0 a1 = some (r1, r2)) :
    Calls Tryz.prog 50 #[.string a0, .string a1] w fun e w' => e = .returned (.tuple #[.string r1, .int .i64 r2]) ∧ Below w.heap.size w w' := by
  have HB := Aside0.mk (Below.refl w.heap.size w)
  have H : ((reredosref01_May.f k a0).bind fun t253 => (if t253 = true then ((reredosref01_May.f k a1).bind fun t254 => (reredosref01_Mul.j0 k a0 a1 (!t254))) else (reredosref01_Mul.j0 k a0 a1 true))) = some (r1, r2) := h
  clear h
  have HC3 := Aside0.mk H
  clear H
  go_enter Tryz.func50, Tryz.ntmps50
  go_upto_region 1 with (fail)
  go_cut [13] (fun v13 wc => ∃ (kq : Nat) (x13_2 : Bool), v13 = .bool x13_2 ∧ Aside0 (reredosref01_Mul.j0 kq a0 a1 x13_2 = some (r1, r2)) ∧ Aside0 (kq ≤ k) ∧ Aside0 (Below w.heap.size w wc))
  case first =>
    have H := HC3.out
    clear HC3
    obtain ⟨t253, A40, H⟩ := Option.bind_eq_some_iff.mp H
    try dsimp only at H
    have A4 := Aside0.mk A40
    clear A40
    by_cases c5 : t253 = true
    · subst c5
      rw [if_pos rfl] at H
      obtain ⟨t254, A60, H⟩ := Option.bind_eq_some_iff.mp H
      try dsimp only at H
      have A6 := Aside0.mk A60
      clear A60
      have H' := Aside0.mk H
      clear H
      go_wp2_with (first | ((with_reducible refine gate_callee (f := 46) rfl ?_); refine goesL_ (some 7) rfl rfl Tryz.func46 (by kernel_rfl) rfl #[.string a0] rfl bkA ?_; (with_reducible refine (reredosref01_May.calls k a0 true _ A4.out).mono ?_); rintro e w' ⟨rfl, ⟨nd, rfl⟩⟩; refine ⟨_, rfl, ?_⟩) | (go_at_call 46; (with_reducible refine (reredosref01_May.calls k a1 t254 _ A6.out).mono ?_); rintro e w' ⟨rfl, ⟨nd, rfl⟩⟩))
      go_meet
      case rel => exact ⟨_, (!t254), bkF, H', ⟨by first | omega | exact Nat.le_refl _⟩, ⟨bkB⟩⟩
    · replace c5 := Bool.eq_false_iff.mpr c5
      subst c5
      rw [if_neg Bool.false_ne_true] at H
      have H' := Aside0.mk H
      clear H
      go_wp2_with (first | ((with_reducible refine gate_callee (f := 46) rfl ?_); refine goesL_ (some 7) rfl rfl Tryz.func46 (by kernel_rfl) rfl #[.string a0] rfl bkA ?_; (with_reducible refine (reredosref01_May.calls k a0 false _ A4.out).mono ?_); rintro e w' ⟨rfl, ⟨nd, rfl⟩⟩; refine ⟨_, rfl, ?_⟩))
      go_meet
      case rel => exact ⟨_, (true), bkF, H', ⟨by first | omega | exact Nat.le_refl _⟩, ⟨bkB⟩⟩
  case rest =>
    clear HC3
    try clear p2
    try clear c4
    try clear c5
    obtain ⟨kq, x13_2, rfl, HA, HJ2, HB⟩ := hcut
    cases kq with
    | zero => exact absurd HA.out (by simp [reredosref01_Mul.j0])
    | succ kj2 =>
      have H := HA.out
      clear HA
      simp only [reredosref01_Mul.j0] at H
      by_cases c7 : x13_2 = true
      · subst c7
        rw [if_pos rfl] at H
        simp only [Option.some.injEq, Prod.mk.injEq] at H
        obtain ⟨rfl, rfl⟩ := H
        go_wp2
        go_ret2
        exact ⟨bkE, bkB⟩
      · replace c7 := Bool.eq_false_iff.mpr c7
        subst c7
        rw [if_neg Bool.false_ne_true] at H
        obtain ⟨t255, A80, H⟩ := Option.bind_eq_some_iff.mp H
        try dsimp only at H
        have A8 := Aside0.mk A80
        clear A80
        obtain ⟨⟨t256, t257⟩, A90, H⟩ := Option.bind_eq_some_iff.mp H
        try dsimp only at H
        have A9 := Aside0.mk A90
        clear A90
        simp only [Option.some.injEq, Prod.mk.injEq] at H
        obtain ⟨rfl, rfl⟩ := H
        go_wp2_with (first | ((with_reducible refine gate_callee (f := 78) rfl ?_); refine goesL_ (some 16) rfl rfl Tryz.func78 (by kernel_rfl) rfl #[.string a0, .string a1] rfl bkA ?_; (with_reducible refine (reredosref01_product.calls kj2 a0 a1 t255 _ A8.out).mono ?_); rintro e w10 ⟨rfl, hb⟩; refine ⟨_, rfl, ?_⟩; replace HB := bkS hb; clear hb; (try clear hb2); (try clear hk); (try clear hi)) | ((with_reducible refine gate_callee (f := 77) rfl ?_); refine goesL_ (some 17) rfl rfl Tryz.func77 (by kernel_rfl) rfl #[.string t255] rfl bkA ?_; (with_reducible refine (reredosref01_told.calls t255 t256 t257 _ A9.out).mono ?_); rintro e w' ⟨rfl, ⟨nd, rfl⟩⟩; refine ⟨_, rfl, ?_⟩))
        go_ret2
        exact ⟨bkE, bkB⟩
/-! ### reredosref01_parts: function 103 -/
mutual
def reredosref01_parts.l0 : Nat → ByteArray → ByteArray → ByteArray → ByteArray → Int → Option (ByteArray × ByteArray)
  | 0, _, _, _, _, _ => none
  | k + 1, x0, x1, x6, x7, x8 => if x8 < (x0.size : Int) then (if 0 ≤ x8 then (if x8 ≤ (wrap64 (x8 + 1)) then (if (wrap64 (x8 + 1)) ≤ (x0.size : Int) then (if x7.size + (x0.extract (x8 : Int).toNat ((wrap64 (x8 + 1)) : Int).toNat).size ≤ 9223372036854775807 then ((reredosref01_bare.f k (x7 ++ (x0.extract (x8 : Int).toNat ((wrap64 (x8 + 1)) : Int).toNat))).bind fun t259 => (reredosref01_parts.l1 k x0 x1 x6 t259 x8 0)) else (none)) else (none)) else (none)) else (none)) else ((reredosref01_bare.f k x6).bind fun t258 => (some (t258, x7)))
def reredosref01_parts.l1 : Nat → ByteArray → ByteArray → ByteArray → ByteArray → Int → Int → Option (ByteArray × ByteArray)
  | 0, _, _, _, _, _, _ => none
  | k + 1, x0, x1, x6, x7, x8, x9 => (reredosref01_more.f k x7 x1).bind fun t260 => (if t260 ≥ 0 then ((reredosref01_minus.f k x7 x1).bind fun t261 => (reredosref01_parts.l1 k x0 x1 x6 t261 x8 (wrap64 (x9 + 1)))) else ((some (([(wrap64 (48 + x9)) % 256] : List Int) : List Int)).bind fun y262 => (if x6.size + (strOfNums y262).size ≤ 9223372036854775807 then (reredosref01_parts.l0 k x0 x1 (x6 ++ (strOfNums y262)) x7 (wrap64 (x8 + 1))) else (none))))
end
def reredosref01_parts.f (k : Nat) (a0 : ByteArray) (a1 : ByteArray) : Option (ByteArray × ByteArray) := reredosref01_parts.l0 k a0 a1 (⟨#[]⟩ : ByteArray) (⟨#[48]⟩ : ByteArray) 0
set_option maxHeartbeats 8000000 in
set_option maxRecDepth 100000 in
theorem reredosref01_parts.calls (k : Nat) (a0 : ByteArray) (a1 : ByteArray) (r1 : ByteArray) (r2 : ByteArray) (w : World) (h : reredosref01_parts.f k a0 a1 = some (r1, r2)) :
    Calls Tryz.prog 103 #[.string a0, .string a1] w fun e w' => e = .returned (.tuple #[.string r1, .string r2]) ∧ Below w.heap.size w w' := by
  have HB := Aside0.mk (Below.refl w.heap.size w)
  have H : (reredosref01_parts.l0 k a0 a1 (⟨#[]⟩ : ByteArray) (⟨#[48]⟩ : ByteArray) 0) = some (r1, r2) := h
  clear h
  have H' := Aside0.mk H
  clear H
  go_enter Tryz.func103, Tryz.ntmps103
  go_wp2
  go_loopg [6, 7, 8] k (fun kq v6 v7 v8 w' => ∃ (x6_1 : ByteArray) (x7_1 : ByteArray) (x8_1 : Int), v6 = .string x6_1 ∧ v7 = .string x7_1 ∧ v8 = .int .i64 x8_1 ∧ Aside0 (reredosref01_parts.l0 kq a0 a1 x6_1 x7_1 x8_1 = some (r1, r2)) ∧ Aside0 (kq ≤ k) ∧ Aside0 (Below w.heap.size w w'))
  case atStart => exact ⟨((⟨#[]⟩ : ByteArray)), ((⟨#[48]⟩ : ByteArray)), (0), bkF, bkF, bkF, H', ⟨Nat.le_refl _⟩, ⟨bkB⟩⟩
  case round =>
    clear H'
    try clear c1
    try clear p2
    obtain ⟨x6_1, x7_1, x8_1, rfl, rfl, rfl, HA, HK1, HB⟩ := hrel
    cases gk with
    | zero => exact absurd HA.out (by simp [reredosref01_parts.l0])
    | succ k1 =>
      have H := HA.out
      clear HA
      simp only [reredosref01_parts.l0] at H
      by_cases c3 : x8_1 < (a0.size : Int)
      · rw [if_pos c3] at H
        have c3b0 : decide (x8_1 < (a0.size : Int)) = true := decide_eq_true c3
        clear c3
        by_cases c4 : 0 ≤ x8_1
        · rw [if_pos c4] at H
          have c4b0 := eq_true c4
          have c4b1 : decide (0 ≤ x8_1) = true := decide_eq_true c4
          clear c4
          by_cases c5 : x8_1 ≤ (wrap64 (x8_1 + 1))
          · rw [if_pos c5] at H
            have c5b0 := eq_true c5
            have c5b1 : decide (x8_1 ≤ (wrap64 (x8_1 + 1))) = true := decide_eq_true c5
            by_cases c6 : (wrap64 (x8_1 + 1)) ≤ (a0.size : Int)
            · rw [if_pos c6] at H
              have c6b0 := eq_true c6
              have c6b1 : decide ((wrap64 (x8_1 + 1)) ≤ (a0.size : Int)) = true := decide_eq_true c6
              by_cases c7 : x7_1.size + (a0.extract (x8_1 : Int).toNat ((wrap64 (x8_1 + 1)) : Int).toNat).size ≤ 9223372036854775807
              · rw [if_pos c7] at H
                have c7b0 := eq_true c7
                have c7b1 : decide (x7_1.size + (a0.extract (x8_1 : Int).toNat ((wrap64 (x8_1 + 1)) : Int).toNat).size ≤ 9223372036854775807) = true := decide_eq_true c7
                try have c7b2 : (9223372036854775807 < x7_1.size + (a0.extract (x8_1 : Int).toNat ((wrap64 (x8_1 + 1)) : Int).toNat).size) = False := eq_false (Nat.not_lt.2 c7)
                obtain ⟨t259, A80, H⟩ := Option.bind_eq_some_iff.mp H
                try dsimp only at H
                have A8 := Aside0.mk A80
                clear A80
                have H' := Aside0.mk H
                clear H
                go_wp2_with (first | ((with_reducible refine gate_callee (f := 102) rfl ?_); refine goesL_ (some 23) rfl rfl Tryz.func102 (by kernel_rfl) rfl #[.string (x7_1 ++ (a0.extract (x8_1 : Int).toNat ((wrap64 (x8_1 + 1)) : Int).toNat))] rfl bkA ?_; (with_reducible refine (reredosref01_bare.calls k1 (x7_1 ++ (a0.extract (x8_1 : Int).toNat ((wrap64 (x8_1 + 1)) : Int).toNat)) t259 _ A8.out).mono ?_); rintro e w' ⟨rfl, ⟨nd, rfl⟩⟩; refine ⟨_, rfl, ?_⟩))
                go_loopg [7, 9] k1 (fun kq v7 v9 w' => ∃ (x7_2 : ByteArray) (x9_2 : Int), v7 = .string x7_2 ∧ v9 = .int .i64 x9_2 ∧ Aside0 (reredosref01_parts.l1 kq a0 a1 x6_1 x7_2 x8_1 x9_2 = some (r1, r2)) ∧ Aside0 (kq ≤ k1) ∧ Aside0 (Below w.heap.size w w'))
                case atStart => exact ⟨(t259), (0), bkF, bkF, H', ⟨Nat.le_refl _⟩, ⟨bkB⟩⟩
                case round =>
                  clear H'
                  try clear c1
                  try clear p2
                  try clear c3
                  try clear c3b0
                  try clear c4
                  try clear c4b0
                  try clear c4b1
                  try clear c5
                  try clear c5b0
                  try clear c5b1
                  try clear c6
                  try clear c6b0
                  try clear c6b1
                  try clear p6
                  try clear c7
                  try clear c7b0
                  try clear c7b1
                  try clear c7b2
                  try clear p2
                  obtain ⟨x7_2, x9_2, rfl, rfl, HA, HK2, HB⟩ := hrel
                  cases gk with
                  | zero => exact absurd HA.out (by simp [reredosref01_parts.l1])
                  | succ k2 =>
                    have H := HA.out
                    clear HA
                    simp only [reredosref01_parts.l1] at H
                    obtain ⟨t260, A90, H⟩ := Option.bind_eq_some_iff.mp H
                    try dsimp only at H
                    have A9 := Aside0.mk A90
                    clear A90
                    by_cases c10 : t260 ≥ 0
                    · rw [if_pos c10] at H
                      have c10b0 : decide (0 ≤ t260) = true := decide_eq_true c10
                      clear c10
                      obtain ⟨t261, A110, H⟩ := Option.bind_eq_some_iff.mp H
                      try dsimp only at H
                      have A11 := Aside0.mk A110
                      clear A110
                      have H' := Aside0.mk H
                      clear H
                      go_wp2_with (first | ((with_reducible refine gate_callee (f := 100) rfl ?_); refine goesL_ (some 26) rfl rfl Tryz.func100 (by kernel_rfl) rfl #[.string x7_2, .string a1] rfl bkA ?_; (with_reducible refine (reredosref01_more.calls k2 x7_2 a1 t260 _ A9.out).mono ?_); rintro e w' ⟨rfl, ⟨nd, rfl⟩⟩; refine ⟨_, rfl, ?_⟩) | ((with_reducible refine gate_callee (f := 101) rfl ?_); refine goesL_ (some 30) rfl rfl Tryz.func101 (by kernel_rfl) rfl #[.string x7_2, .string a1] rfl bkA ?_; (with_reducible refine (reredosref01_minus.calls k2 x7_2 a1 t261 _ A11.out).mono ?_); rintro e w12 ⟨rfl, hb⟩; refine ⟨_, rfl, ?_⟩; replace HB := bkS hb; clear hb; (try clear hb2); (try clear hk); (try clear hi)))
                      go_roundg k2
                      case measure => have := HK1.out; have := HK2.out; omega
                      case rel => exact ⟨(t261), (wrap64 (x9_2 + 1)), bkF, bkF, H', ⟨by have := HK1.out; have := HK2.out; omega⟩, ⟨bkB⟩⟩
                    · rw [if_neg c10] at H
                      have c10b0 : decide (0 ≤ t260) = false := decide_eq_false c10
                      clear c10
                      obtain ⟨y262, hy262⟩ : ∃ y_ : List Int, y_ = (([(wrap64 (48 + x9_2)) % 256] : List Int)) := ⟨_, rfl⟩
                      replace H : (if x6_1.size + (strOfNums y262).size ≤ 9223372036854775807 then (reredosref01_parts.l0 k2 a0 a1 (x6_1 ++ (strOfNums y262)) x7_2 (wrap64 (x8_1 + 1))) else (none)) = some (r1, r2) := by first | (rw [hy262]; with_reducible exact H) | (have H2_ := (Option.bind_some _ _).symm.trans H; rw [hy262]; with_reducible exact H2_) | (have H2_ := (Option.bind_some _ _).symm.trans H; with_reducible exact H2_) | with_reducible exact H | (rw [hy262]; exact H) | exact H
                      have Ny262 := Aside0.mk hy262
                      clear hy262
                      by_cases c13 : x6_1.size + (strOfNums y262).size ≤ 9223372036854775807
                      · rw [if_pos c13] at H
                        have c13b0 := eq_true c13
                        have c13b1 : decide (x6_1.size + (strOfNums y262).size ≤ 9223372036854775807) = true := decide_eq_true c13
                        try have c13b2 : (9223372036854775807 < x6_1.size + (strOfNums y262).size) = False := eq_false (Nat.not_lt.2 c13)
                        have H' := Aside0.mk H
                        clear H
                        go_wp2_with (first | ((with_reducible refine gate_callee (f := 100) rfl ?_); refine goesL_ (some 26) rfl rfl Tryz.func100 (by kernel_rfl) rfl #[.string x7_2, .string a1] rfl bkA ?_; (with_reducible refine (reredosref01_more.calls k2 x7_2 a1 t260 _ A9.out).mono ?_); rintro e w' ⟨rfl, ⟨nd, rfl⟩⟩; refine ⟨_, rfl, ?_⟩) | ((with_reducible refine gate_dst (N := 37) rfl ?_); refine Kd.R_lit (Kd.int .u8) _ 5 ?hg (N := 37) ?hd (xs := ([(wrap64 (48 + x9_2)) % 256] : List Int)) (inner := [.int .u8 ((wrap64 (48 + x9_2)) % 256)]) (ok := fun _ => True) (okp := fun _ => True) ?hr ?hp (fun _ hk => hk) trivial (Below.refl _ _) (Nat.le_refl _) (by simp) ?_; (case hd => rfl); (case hg => rfl); (case hr => first | (go_simp; done) | (go_simp; rfl)); (case hp => exact (Reps.one (show Kd.M (Kd.int .u8) _ _ _ ((wrap64 (48 + x9_2)) % 256) [.int .u8 ((wrap64 (48 + x9_2)) % 256)] from rfl) (Reps.none _ _))); intro v263 w14 ho15 hb hg_ hnew_; clear hg_ hnew_; (first | rw [← Ny262.out] at ho15 | (simp only [Int.reduceToNat] at ho15; rw [← Ny262.out] at ho15)); have n0_ := Aside0.mk (Kd.R_lower ho15 (below_size bkB)); have n1_ := Aside0.mk (below_step bkB hb); clear HB; have HO264 := n0_; have HB := n1_; clear n0_ n1_; clear hb ho15; have hcv16 := own_string (P := Tryz.prog) Tryz.underlying69 Tryz.underlying5 Tryz.underlying9 (Kd.own_of_R HO264.out)))
                        go_roundg k2
                        case measure => have := HK1.out; have := HK2.out; omega
                        case rel => exact ⟨(x6_1 ++ (strOfNums y262)), (x7_2), (wrap64 (x8_1 + 1)), bkF, bkF, bkF, H', ⟨by have := HK1.out; have := HK2.out; omega⟩, ⟨bkB⟩⟩
                      · rw [if_neg c13] at H
                        exact absurd H (by simp)
              · rw [if_neg c7] at H
                exact absurd H (by simp)
            · rw [if_neg c6] at H
              exact absurd H (by simp)
          · rw [if_neg c5] at H
            exact absurd H (by simp)
        · rw [if_neg c4] at H
          exact absurd H (by simp)
      · rw [if_neg c3] at H
        have c3b0 : decide (x8_1 < (a0.size : Int)) = false := decide_eq_false c3
        clear c3
        obtain ⟨t258, A170, H⟩ := Option.bind_eq_some_iff.mp H
        try dsimp only at H
        have A17 := Aside0.mk A170
        clear A170
        simp only [Option.some.injEq, Prod.mk.injEq] at H
        obtain ⟨rfl, rfl⟩ := H
        go_wp2_with (first | ((with_reducible refine gate_callee (f := 102) rfl ?_); refine goesL_ (some 41) rfl rfl Tryz.func102 (by kernel_rfl) rfl #[.string x6_1] rfl bkA ?_; (with_reducible refine (reredosref01_bare.calls k1 x6_1 t258 _ A17.out).mono ?_); rintro e w' ⟨rfl, ⟨nd, rfl⟩⟩; refine ⟨_, rfl, ?_⟩))
        go_ret2
        exact ⟨bkE, bkB⟩
end Go.Proofs.YtaidmohjnbibiaaGreatDoor.K
end
section
namespace Go.Proofs.YtaidmohjnbibiaaGreatDoor.K
open Go.RowKit Go.Proofs.YtaidmohjnbibiaaGreatDoorW.PrintWords Go.Proofs.YtaidmohjnbibiaaGreatDoorW.PrintLast Go.Proofs.YtaidmohjnbibiaaGreatDoorW.PrintMore Go.Proofs.YtaidmohjnbibiaaGreatDoor.B
attribute [local go_sem] max2_int min2_int max_two min_two max_three min_three max_four min_four
set_option linter.unusedVariables false
set_option linter.unusedSimpArgs false
/-! ### reredosref01_floor: function 79 -/
def reredosref01_floor.f (k : Nat) (a0 : ByteArray) (a1 : ByteArray) : Option (ByteArray) := (reredosref01_size.f a0).bind fun t265 => ((reredosref01_size.f a1).bind fun t266 => ((reredosref01_parts.f k t265 t266).bind fun bt267 => ((reredosref01_low.f a0).bind fun t269 => ((reredosref01_low.f a1).bind fun t270 => (if (t269 == t270) = true then (some bt267.1) else (if bt267.2.toList = ([48] : List UInt8) then ((reredosref01_signed.f k bt267.1 true).bind fun t271 => (some t271)) else ((reredosref01_plus.f k bt267.1 (⟨#[49]⟩ : ByteArray)).bind fun t272 => ((reredosref01_signed.f k t272 true).bind fun t273 => (some t273)))))))))
set_option maxHeartbeats 8000000 in
set_option maxRecDepth 100000 in
theorem reredosref01_floor.calls (k : Nat) (a0 : ByteArray) (a1 : ByteArray) (r : ByteArray) (w : World) (h : reredosref01_floor.f k a0 a1 = some r) :
    Calls Tryz.prog 79 #[.string a0, .string a1] w fun e w' => e = .returned (.string r) ∧ Below w.heap.size w w' := by
  have HB := Aside0.mk (Below.refl w.heap.size w)
  have H : ((reredosref01_size.f a0).bind fun t265 => ((reredosref01_size.f a1).bind fun t266 => ((reredosref01_parts.f k t265 t266).bind fun bt267 => ((reredosref01_low.f a0).bind fun t269 => ((reredosref01_low.f a1).bind fun t270 => (if (t269 == t270) = true then (some bt267.1) else (if bt267.2.toList = ([48] : List UInt8) then ((reredosref01_signed.f k bt267.1 true).bind fun t271 => (some t271)) else ((reredosref01_plus.f k bt267.1 (⟨#[49]⟩ : ByteArray)).bind fun t272 => ((reredosref01_signed.f k t272 true).bind fun t273 => (some t273)))))))))) = some r := h
  clear h
  obtain ⟨t265, A30, H⟩ := Option.bind_eq_some_iff.mp H
  try dsimp only at H
  have A3 := Aside0.mk A30
  clear A30
  obtain ⟨t266, A40, H⟩ := Option.bind_eq_some_iff.mp H
  try dsimp only at H
  have A4 := Aside0.mk A40
  clear A40
  obtain ⟨⟨t267, t268⟩, A50, H⟩ := Option.bind_eq_some_iff.mp H
  try dsimp only at H
  have A5 := Aside0.mk A50
  clear A50
  obtain ⟨t269, A60, H⟩ := Option.bind_eq_some_iff.mp H
  try dsimp only at H
  have A6 := Aside0.mk A60
  clear A60
  obtain ⟨t270, A70, H⟩ := Option.bind_eq_some_iff.mp H
  try dsimp only at H
  have A7 := Aside0.mk A70
  clear A70
  by_cases c8 : (t269 == t270) = true
  · rw [if_pos c8] at H
    have c8b0 : (t269 == t270) = true := c8
    (try (have c8b1 : decide (t269 = t270) = true := by simpa using c8))
    (try (have c8b2 : (t269 == t270) = true := by simpa using c8))
    clear c8
    obtain rfl := Option.some.inj H
    go_enter Tryz.func79, Tryz.ntmps79
    go_wp2_with (first | ((with_reducible refine gate_callee (f := 97) rfl ?_); refine goesL_ (some 9) rfl rfl Tryz.func97 (by kernel_rfl) rfl #[.string a0] rfl bkA ?_; (with_reducible refine (reredosref01_size.calls a0 t265 _ A3.out).mono ?_); rintro e w' ⟨rfl, ⟨nd, rfl⟩⟩; refine ⟨_, rfl, ?_⟩) | ((with_reducible refine gate_callee (f := 97) rfl ?_); refine goesL_ (some 11) rfl rfl Tryz.func97 (by kernel_rfl) rfl #[.string a1] rfl bkA ?_; (with_reducible refine (reredosref01_size.calls a1 t266 _ A4.out).mono ?_); rintro e w' ⟨rfl, ⟨nd, rfl⟩⟩; refine ⟨_, rfl, ?_⟩) | ((with_reducible refine gate_callee (f := 103) rfl ?_); refine goesL_ (some 12) rfl rfl Tryz.func103 (by kernel_rfl) rfl #[.string t265, .string t266] rfl bkA ?_; (with_reducible refine (reredosref01_parts.calls k t265 t266 t267 t268 _ A5.out).mono ?_); rintro e w9 ⟨rfl, hb⟩; refine ⟨_, rfl, ?_⟩; replace HB := bkS hb; clear hb; (try clear hb2); (try clear hk); (try clear hi)) | ((with_reducible refine gate_callee (f := 80) rfl ?_); refine goesL_ (some 16) rfl rfl Tryz.func80 (by kernel_rfl) rfl #[.string a0] rfl bkA ?_; (with_reducible refine (reredosref01_low.calls a0 t269 _ A6.out).mono ?_); rintro e w' ⟨rfl, ⟨nd, rfl⟩⟩; refine ⟨_, rfl, ?_⟩) | ((with_reducible refine gate_callee (f := 80) rfl ?_); refine goesL_ (some 18) rfl rfl Tryz.func80 (by kernel_rfl) rfl #[.string a1] rfl bkA ?_; (with_reducible refine (reredosref01_low.calls a1 t270 _ A7.out).mono ?_); rintro e w' ⟨rfl, ⟨nd, rfl⟩⟩; refine ⟨_, rfl, ?_⟩))
    go_ret
    exact ⟨bkE, bkB⟩
  · rw [if_neg c8] at H
    have c8b0 : (t269 == t270) = false := by simpa using c8
    (try (have c8b1 : decide (t269 = t270) = false := by simpa using c8))
    (try (have c8b2 : (t269 == t270) = false := by simpa using c8))
    (try (have c8b3 : ¬ (t269 = t270) := by simpa using c8))
    clear c8
    by_cases c10 : t268.toList = ([48] : List UInt8)
    · rw [if_pos c10] at H
      have c10b0 : (t268.toList == ([48] : List UInt8)) = true := beq_iff_eq.mpr c10
      have c10b1 : (t268.toList != ([48] : List UInt8)) = false := bne_eq_false_iff_eq.mpr c10
      clear c10
      obtain ⟨t271, A110, H⟩ := Option.bind_eq_some_iff.mp H
      try dsimp only at H
      have A11 := Aside0.mk A110
      clear A110
      obtain rfl := Option.some.inj H
      go_enter Tryz.func79, Tryz.ntmps79
      go_wp2_with (first | ((with_reducible refine gate_callee (f := 97) rfl ?_); refine goesL_ (some 9) rfl rfl Tryz.func97 (by kernel_rfl) rfl #[.string a0] rfl bkA ?_; (with_reducible refine (reredosref01_size.calls a0 t265 _ A3.out).mono ?_); rintro e w' ⟨rfl, ⟨nd, rfl⟩⟩; refine ⟨_, rfl, ?_⟩) | ((with_reducible refine gate_callee (f := 97) rfl ?_); refine goesL_ (some 11) rfl rfl Tryz.func97 (by kernel_rfl) rfl #[.string a1] rfl bkA ?_; (with_reducible refine (reredosref01_size.calls a1 t266 _ A4.out).mono ?_); rintro e w' ⟨rfl, ⟨nd, rfl⟩⟩; refine ⟨_, rfl, ?_⟩) | ((with_reducible refine gate_callee (f := 103) rfl ?_); refine goesL_ (some 12) rfl rfl Tryz.func103 (by kernel_rfl) rfl #[.string t265, .string t266] rfl bkA ?_; (with_reducible refine (reredosref01_parts.calls k t265 t266 t267 t268 _ A5.out).mono ?_); rintro e w12 ⟨rfl, hb⟩; refine ⟨_, rfl, ?_⟩; replace HB := bkS hb; clear hb; (try clear hb2); (try clear hk); (try clear hi)) | ((with_reducible refine gate_callee (f := 80) rfl ?_); refine goesL_ (some 16) rfl rfl Tryz.func80 (by kernel_rfl) rfl #[.string a0] rfl bkA ?_; (with_reducible refine (reredosref01_low.calls a0 t269 _ A6.out).mono ?_); rintro e w' ⟨rfl, ⟨nd, rfl⟩⟩; refine ⟨_, rfl, ?_⟩) | ((with_reducible refine gate_callee (f := 80) rfl ?_); refine goesL_ (some 18) rfl rfl Tryz.func80 (by kernel_rfl) rfl #[.string a1] rfl bkA ?_; (with_reducible refine (reredosref01_low.calls a1 t270 _ A7.out).mono ?_); rintro e w' ⟨rfl, ⟨nd, rfl⟩⟩; refine ⟨_, rfl, ?_⟩) | ((with_reducible refine gate_callee (f := 98) rfl ?_); refine goesL_ (some 26) rfl rfl Tryz.func98 (by kernel_rfl) rfl #[.string t267, .bool true] rfl bkA ?_; (with_reducible refine (reredosref01_signed.calls k t267 true t271 _ A11.out).mono ?_); rintro e w' ⟨rfl, ⟨nd, rfl⟩⟩; refine ⟨_, rfl, ?_⟩))
      go_ret
      exact ⟨bkE, bkB⟩
    · rw [if_neg c10] at H
      have c10b0 : (t268.toList == ([48] : List UInt8)) = false := beq_eq_false_iff_ne.mpr c10
      have c10b1 : (t268.toList != ([48] : List UInt8)) = true := bne_iff_ne.mpr c10
      obtain ⟨t272, A130, H⟩ := Option.bind_eq_some_iff.mp H
      try dsimp only at H
      have A13 := Aside0.mk A130
      clear A130
      obtain ⟨t273, A140, H⟩ := Option.bind_eq_some_iff.mp H
      try dsimp only at H
      have A14 := Aside0.mk A140
      clear A140
      obtain rfl := Option.some.inj H
      go_enter Tryz.func79, Tryz.ntmps79
      go_wp2_with (first | ((with_reducible refine gate_callee (f := 97) rfl ?_); refine goesL_ (some 9) rfl rfl Tryz.func97 (by kernel_rfl) rfl #[.string a0] rfl bkA ?_; (with_reducible refine (reredosref01_size.calls a0 t265 _ A3.out).mono ?_); rintro e w' ⟨rfl, ⟨nd, rfl⟩⟩; refine ⟨_, rfl, ?_⟩) | ((with_reducible refine gate_callee (f := 97) rfl ?_); refine goesL_ (some 11) rfl rfl Tryz.func97 (by kernel_rfl) rfl #[.string a1] rfl bkA ?_; (with_reducible refine (reredosref01_size.calls a1 t266 _ A4.out).mono ?_); rintro e w' ⟨rfl, ⟨nd, rfl⟩⟩; refine ⟨_, rfl, ?_⟩) | ((with_reducible refine gate_callee (f := 103) rfl ?_); refine goesL_ (some 12) rfl rfl Tryz.func103 (by kernel_rfl) rfl #[.string t265, .string t266] rfl bkA ?_; (with_reducible refine (reredosref01_parts.calls k t265 t266 t267 t268 _ A5.out).mono ?_); rintro e w15 ⟨rfl, hb⟩; refine ⟨_, rfl, ?_⟩; replace HB := bkS hb; clear hb; (try clear hb2); (try clear hk); (try clear hi)) | ((with_reducible refine gate_callee (f := 80) rfl ?_); refine goesL_ (some 16) rfl rfl Tryz.func80 (by kernel_rfl) rfl #[.string a0] rfl bkA ?_; (with_reducible refine (reredosref01_low.calls a0 t269 _ A6.out).mono ?_); rintro e w' ⟨rfl, ⟨nd, rfl⟩⟩; refine ⟨_, rfl, ?_⟩) | ((with_reducible refine gate_callee (f := 80) rfl ?_); refine goesL_ (some 18) rfl rfl Tryz.func80 (by kernel_rfl) rfl #[.string a1] rfl bkA ?_; (with_reducible refine (reredosref01_low.calls a1 t270 _ A7.out).mono ?_); rintro e w' ⟨rfl, ⟨nd, rfl⟩⟩; refine ⟨_, rfl, ?_⟩) | ((with_reducible refine gate_callee (f := 99) rfl ?_); refine goesL_ (some 24) rfl rfl Tryz.func99 (by kernel_rfl) rfl #[.string t267, .string (⟨#[49]⟩ : ByteArray)] rfl bkA ?_; (with_reducible refine (reredosref01_plus.calls k t267 (⟨#[49]⟩ : ByteArray) t272 _ A13.out).mono ?_); rintro e w16 ⟨rfl, hb⟩; refine ⟨_, rfl, ?_⟩; replace HB := bkS hb; clear hb; (try clear hb2); (try clear hk); (try clear hi)) | ((with_reducible refine gate_callee (f := 98) rfl ?_); refine goesL_ (some 26) rfl rfl Tryz.func98 (by kernel_rfl) rfl #[.string t272, .bool true] rfl bkA ?_; (with_reducible refine (reredosref01_signed.calls k t272 true t273 _ A14.out).mono ?_); rintro e w' ⟨rfl, ⟨nd, rfl⟩⟩; refine ⟨_, rfl, ?_⟩))
      go_ret
      exact ⟨bkE, bkB⟩
/-! ### reredosref01_Div: function 51 -/
def reredosref01_Div.j0 : Nat → ByteArray → ByteArray → Bool → Option (ByteArray × Int)
  | 0, _, _, _ => none
  | k + 1, x0, x1, x13 => if x13 = true then (some ((⟨#[]⟩ : ByteArray), 1)) else (if x1.toList = ([48] : List UInt8) then (some ((⟨#[]⟩ : ByteArray), 5)) else ((reredosref01_floor.f k x0 x1).bind fun t276 => ((reredosref01_told.f t276).bind fun bt277 => (some (bt277.1, bt277.2)))))
def reredosref01_Div.f (k : Nat) (a0 : ByteArray) (a1 : ByteArray) : Option (ByteArray × Int) := (reredosref01_May.f k a0).bind fun t274 => (if t274 = true then ((reredosref01_May.f k a1).bind fun t275 => (reredosref01_Div.j0 k a0 a1 (!t275))) else (reredosref01_Div.j0 k a0 a1 true))
set_option maxHeartbeats 8000000 in
set_option maxRecDepth 100000 in
theorem reredosref01_Div.calls (k : Nat) (a0 : ByteArray) (a1 : ByteArray) (r1 : ByteArray) (r2 : Int) (w : World) (h : reredosref01_Div.f k a0 a1 = some (r1, r2)) :
    Calls Tryz.prog 51 #[.string a0, .string a1] w fun e w' => e = .returned (.tuple #[.string r1, .int .i64 r2]) ∧ Below w.heap.size w w' := by
  have HB := Aside0.mk (Below.refl w.heap.size w)
  have H : ((reredosref01_May.f k a0).bind fun t274 => (if t274 = true then ((reredosref01_May.f k a1).bind fun t275 => (reredosref01_Div.j0 k a0 a1 (!t275))) else (reredosref01_Div.j0 k a0 a1 true))) = some (r1, r2) := h
  clear h
  have HC3 := Aside0.mk H
  clear H
  go_enter Tryz.func51, Tryz.ntmps51
  go_upto_region 1 with (fail)
  go_cut [13] (fun v13 wc => ∃ (kq : Nat) (x13_2 : Bool), v13 = .bool x13_2 ∧ Aside0 (reredosref01_Div.j0 kq a0 a1 x13_2 = some (r1, r2)) ∧ Aside0 (kq ≤ k) ∧ Aside0 (Below w.heap.size w wc))
  case first =>
    have H := HC3.out
    clear HC3
    obtain ⟨t274, A40, H⟩ := Option.bind_eq_some_iff.mp H
    try dsimp only at H
    have A4 := Aside0.mk A40
    clear A40
    by_cases c5 : t274 = true
    · subst c5
      rw [if_pos rfl] at H
      obtain ⟨t275, A60, H⟩ := Option.bind_eq_some_iff.mp H
      try dsimp only at H
      have A6 := Aside0.mk A60
      clear A60
      have H' := Aside0.mk H
      clear H
      go_wp2_with (first | ((with_reducible refine gate_callee (f := 46) rfl ?_); refine goesL_ (some 7) rfl rfl Tryz.func46 (by kernel_rfl) rfl #[.string a0] rfl bkA ?_; (with_reducible refine (reredosref01_May.calls k a0 true _ A4.out).mono ?_); rintro e w' ⟨rfl, ⟨nd, rfl⟩⟩; refine ⟨_, rfl, ?_⟩) | (go_at_call 46; (with_reducible refine (reredosref01_May.calls k a1 t275 _ A6.out).mono ?_); rintro e w' ⟨rfl, ⟨nd, rfl⟩⟩))
      go_meet
      case rel => exact ⟨_, (!t275), bkF, H', ⟨by first | omega | exact Nat.le_refl _⟩, ⟨bkB⟩⟩
    · replace c5 := Bool.eq_false_iff.mpr c5
      subst c5
      rw [if_neg Bool.false_ne_true] at H
      have H' := Aside0.mk H
      clear H
      go_wp2_with (first | ((with_reducible refine gate_callee (f := 46) rfl ?_); refine goesL_ (some 7) rfl rfl Tryz.func46 (by kernel_rfl) rfl #[.string a0] rfl bkA ?_; (with_reducible refine (reredosref01_May.calls k a0 false _ A4.out).mono ?_); rintro e w' ⟨rfl, ⟨nd, rfl⟩⟩; refine ⟨_, rfl, ?_⟩))
      go_meet
      case rel => exact ⟨_, (true), bkF, H', ⟨by first | omega | exact Nat.le_refl _⟩, ⟨bkB⟩⟩
  case rest =>
    clear HC3
    try clear p2
    try clear c4
    try clear c5
    obtain ⟨kq, x13_2, rfl, HA, HJ2, HB⟩ := hcut
    cases kq with
    | zero => exact absurd HA.out (by simp [reredosref01_Div.j0])
    | succ kj2 =>
      have H := HA.out
      clear HA
      simp only [reredosref01_Div.j0] at H
      by_cases c7 : x13_2 = true
      · subst c7
        rw [if_pos rfl] at H
        simp only [Option.some.injEq, Prod.mk.injEq] at H
        obtain ⟨rfl, rfl⟩ := H
        go_wp2
        go_ret2
        exact ⟨bkE, bkB⟩
      · replace c7 := Bool.eq_false_iff.mpr c7
        subst c7
        rw [if_neg Bool.false_ne_true] at H
        by_cases c8 : a1.toList = ([48] : List UInt8)
        · rw [if_pos c8] at H
          have c8b0 : (a1.toList == ([48] : List UInt8)) = true := beq_iff_eq.mpr c8
          have c8b1 : (a1.toList != ([48] : List UInt8)) = false := bne_eq_false_iff_eq.mpr c8
          clear c8
          simp only [Option.some.injEq, Prod.mk.injEq] at H
          obtain ⟨rfl, rfl⟩ := H
          go_wp2
          go_ret2
          exact ⟨bkE, bkB⟩
        · rw [if_neg c8] at H
          have c8b0 : (a1.toList == ([48] : List UInt8)) = false := beq_eq_false_iff_ne.mpr c8
          have c8b1 : (a1.toList != ([48] : List UInt8)) = true := bne_iff_ne.mpr c8
          obtain ⟨t276, A90, H⟩ := Option.bind_eq_some_iff.mp H
          try dsimp only at H
          have A9 := Aside0.mk A90
          clear A90
          obtain ⟨⟨t277, t278⟩, A100, H⟩ := Option.bind_eq_some_iff.mp H
          try dsimp only at H
          have A10 := Aside0.mk A100
          clear A100
          simp only [Option.some.injEq, Prod.mk.injEq] at H
          obtain ⟨rfl, rfl⟩ := H
          go_wp2_with (first | ((with_reducible refine gate_callee (f := 79) rfl ?_); refine goesL_ (some 18) rfl rfl Tryz.func79 (by kernel_rfl) rfl #[.string a0, .string a1] rfl bkA ?_; (with_reducible refine (reredosref01_floor.calls kj2 a0 a1 t276 _ A9.out).mono ?_); rintro e w11 ⟨rfl, hb⟩; refine ⟨_, rfl, ?_⟩; replace HB := bkS hb; clear hb; (try clear hb2); (try clear hk); (try clear hi)) | ((with_reducible refine gate_callee (f := 77) rfl ?_); refine goesL_ (some 19) rfl rfl Tryz.func77 (by kernel_rfl) rfl #[.string t276] rfl bkA ?_; (with_reducible refine (reredosref01_told.calls t276 t277 t278 _ A10.out).mono ?_); rintro e w' ⟨rfl, ⟨nd, rfl⟩⟩; refine ⟨_, rfl, ?_⟩))
          go_ret2
          exact ⟨bkE, bkB⟩
/-! ### reredosref01_Mod: function 52 -/
def reredosref01_Mod.j0 : Nat → ByteArray → ByteArray → Bool → Option (ByteArray × Int)
  | 0, _, _, _ => none
  | k + 1, x0, x1, x13 => if x13 = true then (some ((⟨#[]⟩ : ByteArray), 1)) else (if x1.toList = ([48] : List UInt8) then (some ((⟨#[]⟩ : ByteArray), 5)) else ((reredosref01_floor.f k x0 x1).bind fun t281 => ((reredosref01_product.f k x1 t281).bind fun t282 => ((reredosref01_turned.f k t282).bind fun t283 => ((reredosref01_sum.f k x0 t283).bind fun t284 => ((reredosref01_told.f t284).bind fun bt285 => (some (bt285.1, bt285.2))))))))
def reredosref01_Mod.f (k : Nat) (a0 : ByteArray) (a1 : ByteArray) : Option (ByteArray × Int) := (reredosref01_May.f k a0).bind fun t279 => (if t279 = true then ((reredosref01_May.f k a1).bind fun t280 => (reredosref01_Mod.j0 k a0 a1 (!t280))) else (reredosref01_Mod.j0 k a0 a1 true))
set_option maxHeartbeats 8000000 in
set_option maxRecDepth 100000 in
theorem reredosref01_Mod.calls (k : Nat) (a0 : ByteArray) (a1 : ByteArray) (r1 : ByteArray) (r2 : Int) (w : World) (h : reredosref01_Mod.f k a0 a1 = some (r1, r2)) :
    Calls Tryz.prog 52 #[.string a0, .string a1] w fun e w' => e = .returned (.tuple #[.string r1, .int .i64 r2]) ∧ Below w.heap.size w w' := by
  have HB := Aside0.mk (Below.refl w.heap.size w)
  have H : ((reredosref01_May.f k a0).bind fun t279 => (if t279 = true then ((reredosref01_May.f k a1).bind fun t280 => (reredosref01_Mod.j0 k a0 a1 (!t280))) else (reredosref01_Mod.j0 k a0 a1 true))) = some (r1, r2) := h
  clear h
  have HC3 := Aside0.mk H
  clear H
  go_enter Tryz.func52, Tryz.ntmps52
  go_upto_region 1 with (fail)
  go_cut [13] (fun v13 wc => ∃ (kq : Nat) (x13_2 : Bool), v13 = .bool x13_2 ∧ Aside0 (reredosref01_Mod.j0 kq a0 a1 x13_2 = some (r1, r2)) ∧ Aside0 (kq ≤ k) ∧ Aside0 (Below w.heap.size w wc))
  case first =>
    have H := HC3.out
    clear HC3
    obtain ⟨t279, A40, H⟩ := Option.bind_eq_some_iff.mp H
    try dsimp only at H
    have A4 := Aside0.mk A40
    clear A40
    by_cases c5 : t279 = true
    · subst c5
      rw [if_pos rfl] at H
      obtain ⟨t280, A60, H⟩ := Option.bind_eq_some_iff.mp H
      try dsimp only at H
      have A6 := Aside0.mk A60
      clear A60
      have H' := Aside0.mk H
      clear H
      go_wp2_with (first | ((with_reducible refine gate_callee (f := 46) rfl ?_); refine goesL_ (some 7) rfl rfl Tryz.func46 (by kernel_rfl) rfl #[.string a0] rfl bkA ?_; (with_reducible refine (reredosref01_May.calls k a0 true _ A4.out).mono ?_); rintro e w' ⟨rfl, ⟨nd, rfl⟩⟩; refine ⟨_, rfl, ?_⟩) | (go_at_call 46; (with_reducible refine (reredosref01_May.calls k a1 t280 _ A6.out).mono ?_); rintro e w' ⟨rfl, ⟨nd, rfl⟩⟩))
      go_meet
      case rel => exact ⟨_, (!t280), bkF, H', ⟨by first | omega | exact Nat.le_refl _⟩, ⟨bkB⟩⟩
    · replace c5 := Bool.eq_false_iff.mpr c5
      subst c5
      rw [if_neg Bool.false_ne_true] at H
      have H' := Aside0.mk H
      clear H
      go_wp2_with (first | ((with_reducible refine gate_callee (f := 46) rfl ?_); refine goesL_ (some 7) rfl rfl Tryz.func46 (by kernel_rfl) rfl #[.string a0] rfl bkA ?_; (with_reducible refine (reredosref01_May.calls k a0 false _ A4.out).mono ?_); rintro e w' ⟨rfl, ⟨nd, rfl⟩⟩; refine ⟨_, rfl, ?_⟩))
      go_meet
      case rel => exact ⟨_, (true), bkF, H', ⟨by first | omega | exact Nat.le_refl _⟩, ⟨bkB⟩⟩
  case rest =>
    clear HC3
    try clear p2
    try clear c4
    try clear c5
    obtain ⟨kq, x13_2, rfl, HA, HJ2, HB⟩ := hcut
    cases kq with
    | zero => exact absurd HA.out (by simp [reredosref01_Mod.j0])
    | succ kj2 =>
      have H := HA.out
      clear HA
      simp only [reredosref01_Mod.j0] at H
      by_cases c7 : x13_2 = true
      · subst c7
        rw [if_pos rfl] at H
        simp only [Option.some.injEq, Prod.mk.injEq] at H
        obtain ⟨rfl, rfl⟩ := H
        go_wp2
        go_ret2
        exact ⟨bkE, bkB⟩
      · replace c7 := Bool.eq_false_iff.mpr c7
        subst c7
        rw [if_neg Bool.false_ne_true] at H
        by_cases c8 : a1.toList = ([48] : List UInt8)
        · rw [if_pos c8] at H
          have c8b0 : (a1.toList == ([48] : List UInt8)) = true := beq_iff_eq.mpr c8
          have c8b1 : (a1.toList != ([48] : List UInt8)) = false := bne_eq_false_iff_eq.mpr c8
          clear c8
          simp only [Option.some.injEq, Prod.mk.injEq] at H
          obtain ⟨rfl, rfl⟩ := H
          go_wp2
          go_ret2
          exact ⟨bkE, bkB⟩
        · rw [if_neg c8] at H
          have c8b0 : (a1.toList == ([48] : List UInt8)) = false := beq_eq_false_iff_ne.mpr c8
          have c8b1 : (a1.toList != ([48] : List UInt8)) = true := bne_iff_ne.mpr c8
          obtain ⟨t281, A90, H⟩ := Option.bind_eq_some_iff.mp H
          try dsimp only at H
          have A9 := Aside0.mk A90
          clear A90
          obtain ⟨t282, A100, H⟩ := Option.bind_eq_some_iff.mp H
          try dsimp only at H
          have A10 := Aside0.mk A100
          clear A100
          obtain ⟨t283, A110, H⟩ := Option.bind_eq_some_iff.mp H
          try dsimp only at H
          have A11 := Aside0.mk A110
          clear A110
          obtain ⟨t284, A120, H⟩ := Option.bind_eq_some_iff.mp H
          try dsimp only at H
          have A12 := Aside0.mk A120
          clear A120
          obtain ⟨⟨t285, t286⟩, A130, H⟩ := Option.bind_eq_some_iff.mp H
          try dsimp only at H
          have A13 := Aside0.mk A130
          clear A130
          simp only [Option.some.injEq, Prod.mk.injEq] at H
          obtain ⟨rfl, rfl⟩ := H
          go_wp2_with (first | ((with_reducible refine gate_callee (f := 79) rfl ?_); refine goesL_ (some 20) rfl rfl Tryz.func79 (by kernel_rfl) rfl #[.string a0, .string a1] rfl bkA ?_; (with_reducible refine (reredosref01_floor.calls kj2 a0 a1 t281 _ A9.out).mono ?_); rintro e w14 ⟨rfl, hb⟩; refine ⟨_, rfl, ?_⟩; replace HB := bkS hb; clear hb; (try clear hb2); (try clear hk); (try clear hi)) | ((with_reducible refine gate_callee (f := 78) rfl ?_); refine goesL_ (some 21) rfl rfl Tryz.func78 (by kernel_rfl) rfl #[.string a1, .string t281] rfl bkA ?_; (with_reducible refine (reredosref01_product.calls kj2 a1 t281 t282 _ A10.out).mono ?_); rintro e w15 ⟨rfl, hb⟩; refine ⟨_, rfl, ?_⟩; replace HB := bkS hb; clear hb; (try clear hb2); (try clear hk); (try clear hi)) | ((with_reducible refine gate_callee (f := 76) rfl ?_); refine goesL_ (some 22) rfl rfl Tryz.func76 (by kernel_rfl) rfl #[.string t282] rfl bkA ?_; (with_reducible refine (reredosref01_turned.calls kj2 t282 t283 _ A11.out).mono ?_); rintro e w' ⟨rfl, ⟨nd, rfl⟩⟩; refine ⟨_, rfl, ?_⟩) | ((with_reducible refine gate_callee (f := 75) rfl ?_); refine goesL_ (some 23) rfl rfl Tryz.func75 (by kernel_rfl) rfl #[.string a0, .string t283] rfl bkA ?_; (with_reducible refine (reredosref01_sum.calls kj2 a0 t283 t284 _ A12.out).mono ?_); rintro e w16 ⟨rfl, hb⟩; refine ⟨_, rfl, ?_⟩; replace HB := bkS hb; clear hb; (try clear hb2); (try clear hk); (try clear hi)) | ((with_reducible refine gate_callee (f := 77) rfl ?_); refine goesL_ (some 24) rfl rfl Tryz.func77 (by kernel_rfl) rfl #[.string t284] rfl bkA ?_; (with_reducible refine (reredosref01_told.calls t284 t285 t286 _ A13.out).mono ?_); rintro e w' ⟨rfl, ⟨nd, rfl⟩⟩; refine ⟨_, rfl, ?_⟩))
          go_ret2
          exact ⟨bkE, bkB⟩
end Go.Proofs.YtaidmohjnbibiaaGreatDoor.K
end
