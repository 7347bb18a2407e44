/- What the law leans on, part 12: declarations of several texts of ours, in their order. -/
import Derived.Test.YtcpaajecppplhaaGreatDoorXT9
import Derived.Test.YtcpaajecppplhaaGreatDoorXT10
section
namespace Go.Proofs.YtcpaajecppplhaaGreatDoor.K
open Go.RowKit Go.Proofs.YtcpaajecppplhaaGreatDoorW.PrintWords Go.Proofs.YtcpaajecppplhaaGreatDoorW.PrintLast Go.Proofs.YtcpaajecppplhaaGreatDoorW.PrintMore Go.Proofs.YtcpaajecppplhaaGreatDoor.B
attribute [local go_sem] max2_int min2_int max_two min_two max_three min_three max_four min_four
set_option linter.unusedVariables false
set_option linter.unusedSimpArgs false
/-! ### reredosref01_Sign: function 151 -/
def reredosref01_Sign.j0 : Nat → ByteArray → Bool → Option (Int)
  | 0, _, _ => none
  | k + 1, x0, x9 => if x9 = true then (some 0) else ((reredosref01_low.f x0).bind fun t175 => (if t175 = true then (some (-1)) else (some 1)))
def reredosref01_Sign.f (k : Nat) (a0 : ByteArray) : Option (Int) := (reredosref01_May.f k a0).bind fun t174 => (if t174 = true then (reredosref01_Sign.j0 k a0 (a0.toList == ([48] : List UInt8))) else (reredosref01_Sign.j0 k a0 true))
set_option maxHeartbeats 8000000 in
set_option maxRecDepth 100000 in
theorem reredosref01_Sign.calls (k : Nat) (a0 : ByteArray) (r : Int) (w : World) (h : reredosref01_Sign.f k a0 = some r) :
    Calls Tryz.prog 151 #[.string a0] w fun e w' => e = .returned (.int .i64 r) ∧ Drawn0 w w' := by
  have H : ((reredosref01_May.f k a0).bind fun t174 => (if t174 = true then (reredosref01_Sign.j0 k a0 (a0.toList == ([48] : List UInt8))) else (reredosref01_Sign.j0 k a0 true))) = some r := h
  clear h
  have HC2 := Aside0.mk H
  clear H
  go_enter Tryz.func151, Tryz.ntmps151
  go_upto_region 1 with (fail)
  go_cut [9] (fun v9 wc => ∃ (kq : Nat) (x9_1 : Bool), v9 = .bool x9_1 ∧ Aside0 (reredosref01_Sign.j0 kq a0 x9_1 = some r) ∧ Aside0 (kq ≤ k) ∧ Drawn0 w wc)
  case first =>
    have H := HC2.out
    clear HC2
    refine bnd H ?_; clear H; intro t174 A3 H
    go_wp2_with (first | ((with_reducible refine gate_callee (f := 118) rfl ?_); refine goesC Tryz.func118 (some 4) (reredosref01_May.calls _ _ _ _ A3.out) ?_; rintro e w' ⟨rfl, ⟨nd, rfl⟩⟩; refine ⟨_, rfl, ?_⟩; refine halt ?_))
    refine ⟨?_⟩
    refine iteB H ?_ ?_ <;> clear H <;> rintro rfl H
    · have H' := Aside0.mk H
      clear H
      go_wp2
      go_meet
      case rel => exact ⟨_, ((a0.toList == ([48] : List UInt8))), bkF, H', ⟨by first | omega | exact Nat.le_refl _⟩, bkD⟩
    · have H' := Aside0.mk H
      clear H
      go_wp2
      go_meet
      case rel => exact ⟨_, (true), bkF, H', ⟨by first | omega | exact Nat.le_refl _⟩, bkD⟩
  case rest =>
    clear HC2
    try clear c1
    try clear p2
    try clear c4
    obtain ⟨kq, x9_1, rfl, HA, HJ1, ⟨mc1, rfl⟩⟩ := hcut
    cases kq with
    | zero => exact absurd HA.out (by simp [reredosref01_Sign.j0])
    | succ kj1 =>
      have H := HA.out
      clear HA
      simp only [reredosref01_Sign.j0] at H
      refine iteB H ?_ ?_ <;> clear H <;> rintro rfl H
      · obtain rfl := Option.some.inj H
        go_wp2
        go_ret
        exact ⟨bkF, bkD⟩
      · refine bnd H ?_; clear H; intro t175 A6 H
        go_wp2_with (first | ((with_reducible refine gate_callee (f := 183) rfl ?_); refine goesC Tryz.func183 (some 11) (reredosref01_low.calls _ _ _ A6.out) ?_; rintro e w' ⟨rfl, ⟨nd, rfl⟩⟩; refine ⟨_, rfl, ?_⟩; refine halt ?_))
        refine ⟨?_⟩
        refine iteB H ?_ ?_ <;> clear H <;> rintro rfl H
        · obtain rfl := Option.some.inj H
          go_wp2
          go_ret
          exact ⟨bkF, bkD⟩
        · obtain rfl := Option.some.inj H
          go_wp2
          go_ret
          exact ⟨bkF, bkD⟩
/-! ### reredosref01_bounded: function 186 -/
def reredosref01_bounded.f (k : Nat) (a0 : ByteArray) : Option (ByteArray) := (reredosref01_size.f a0).bind fun t176 => (if (t176.size : Int) > 100 then ((reredosref01_low.f a0).bind fun t177 => ((reredosref01_signed.f k (⟨#[49]⟩ : ByteArray) t177).bind fun t178 => (some t178))) else (some a0))
set_option maxHeartbeats 8000000 in
set_option maxRecDepth 100000 in
theorem reredosref01_bounded.calls (k : Nat) (a0 : ByteArray) (r : ByteArray) (w : World) (h : reredosref01_bounded.f k a0 = some r) :
    Calls Tryz.prog 186 #[.string a0] w fun e w' => e = .returned (.string r) ∧ Drawn0 w w' := by
  have H : ((reredosref01_size.f a0).bind fun t176 => (if (t176.size : Int) > 100 then ((reredosref01_low.f a0).bind fun t177 => ((reredosref01_signed.f k (⟨#[49]⟩ : ByteArray) t177).bind fun t178 => (some t178))) else (some a0))) = some r := h
  clear h
  refine bnd H ?_; clear H; intro t176 A2 H
  refine iteE H ?_ ?_ <;> clear H <;> intro c3 H
  · have c3b0 : decide (100 < (t176.size : Int)) = true := decide_eq_true c3
    have c3b1 : decide (100 < t176.size) = true := decide_eq_true (by omega)
    clear c3
    refine bnd H ?_; clear H; intro t177 A4 H
    refine bnd H ?_; clear H; intro t178 A5 H
    obtain rfl := Option.some.inj H
    go_enter Tryz.func186, Tryz.ntmps186
    go_wp2_with (first | ((with_reducible refine gate_callee (f := 182) rfl ?_); refine goesL_ (some 4) rfl rfl Tryz.func182 (by kernel_rfl) rfl #[.string a0] rfl bkA ?_; (with_reducible refine (reredosref01_size.calls a0 t176 _ A2.out).mono ?_); rintro e w' ⟨rfl, ⟨nd, rfl⟩⟩; refine ⟨_, rfl, ?_⟩) | ((with_reducible refine gate_callee (f := 183) rfl ?_); refine goesL_ (some 8) rfl rfl Tryz.func183 (by kernel_rfl) rfl #[.string a0] rfl bkA ?_; (with_reducible refine (reredosref01_low.calls a0 t177 _ A4.out).mono ?_); rintro e w' ⟨rfl, ⟨nd, rfl⟩⟩; refine ⟨_, rfl, ?_⟩) | ((with_reducible refine gate_callee (f := 214) rfl ?_); refine goesL_ (some 9) rfl rfl Tryz.func214 (by kernel_rfl) rfl #[.string (⟨#[49]⟩ : ByteArray), .bool t177] rfl bkA ?_; (with_reducible refine (reredosref01_signed.calls k (⟨#[49]⟩ : ByteArray) t177 t178 _ A5.out).mono ?_); rintro e w' ⟨rfl, ⟨nd, rfl⟩⟩; refine ⟨_, rfl, ?_⟩))
    go_ret
    exact ⟨bkF, bkD⟩
  · have c3b0 : decide (100 < (t176.size : Int)) = false := decide_eq_false c3
    have c3b1 : decide (100 < t176.size) = false := decide_eq_false (by omega)
    clear c3
    obtain rfl := Option.some.inj H
    go_enter Tryz.func186, Tryz.ntmps186
    go_wp2_with (first | ((with_reducible refine gate_callee (f := 182) rfl ?_); refine goesL_ (some 4) rfl rfl Tryz.func182 (by kernel_rfl) rfl #[.string a0] rfl bkA ?_; (with_reducible refine (reredosref01_size.calls a0 t176 _ A2.out).mono ?_); rintro e w' ⟨rfl, ⟨nd, rfl⟩⟩; refine ⟨_, rfl, ?_⟩))
    go_ret
    exact ⟨bkF, bkD⟩
/-! ### reredosref01_digit: function 243 -/
def reredosref01_digit.f (a0 : ByteArray) (a1 : Int) : Option (Int) := if a1 ≥ (a0.size : Int) then (some 0) else (if 0 ≤ (wrap64 ((wrap64 ((a0.size : Int) - 1)) - a1)) then (if (wrap64 ((wrap64 ((a0.size : Int) - 1)) - a1)) < (a0.size : Int) then (some (((bt a0 (wrap64 ((wrap64 ((a0.size : Int) - 1)) - a1))) - 48) % 256)) else (none)) else (none))
set_option maxHeartbeats 8000000 in
set_option maxRecDepth 100000 in
theorem reredosref01_digit.calls (a0 : ByteArray) (a1 : Int) (r : Int) (w : World) (h : reredosref01_digit.f a0 a1 = some r) :
    Calls Tryz.prog 243 #[.string a0, .int .i64 a1] w fun e w' => e = .returned (.int .i64 r) ∧ Drawn0 w w' := by
  have H : (if a1 ≥ (a0.size : Int) then (some 0) else (if 0 ≤ (wrap64 ((wrap64 ((a0.size : Int) - 1)) - a1)) then (if (wrap64 ((wrap64 ((a0.size : Int) - 1)) - a1)) < (a0.size : Int) then (some (((bt a0 (wrap64 ((wrap64 ((a0.size : Int) - 1)) - a1))) - 48) % 256)) else (none)) else (none))) = some r := h
  clear h
  refine iteE H ?_ ?_ <;> clear H <;> intro c3 H
  · have c3b0 : decide ((a0.size : Int) ≤ a1) = true := decide_eq_true c3
    clear c3
    obtain rfl := Option.some.inj H
    go_enter Tryz.func243, Tryz.ntmps243
    go_wp2
    go_ret
    exact ⟨bkF, bkD⟩
  · have c3b0 : decide ((a0.size : Int) ≤ a1) = false := decide_eq_false c3
    clear c3
    obtain ⟨ji4, hji4⟩ : ∃ j_ : Int, (wrap64 ((wrap64 ((a0.size : Int) - 1)) - a1)) = j_ := ⟨_, rfl⟩
    replace H : (if 0 ≤ (ji4) then (if (ji4) < (a0.size : Int) then (some (((bt a0 (ji4)) - 48) % 256)) else (none)) else (none)) = some r := by first | (rw [hji4] at H; exact H) | (simp only [hji4] at H ⊢; exact H)
    have hji4w : (IntKind.i64.wrap ((wrap64 ((a0.size : Int) - 1)) - a1)) = ji4 := (i64_w _).trans hji4
    refine iteE H ?_ ?_ <;> clear H <;> intro c5 H
    · have c5b0 : decide (0 ≤ (ji4)) = true := decide_eq_true c5
      clear c5
      refine iteE H ?_ ?_ <;> clear H <;> intro c6 H
      · have c6b0 : decide ((ji4) < (a0.size : Int)) = true := decide_eq_true c6
        clear c6
        obtain rfl := Option.some.inj H
        have p7 : 0 ≤ ((ji4) : Int) := of_decide_eq_true (by first | (with_reducible assumption) | assumption)
        have q7 : (ji4) < (a0.size : Int) := of_decide_eq_true (by first | (with_reducible assumption) | assumption)
        have hx7 := bt_at a0 (ji4)
        replace p7 := eq_true p7
        replace q7 := eq_true q7
        go_enter Tryz.func243, Tryz.ntmps243
        go_wp2
        go_ret
        exact ⟨by first | rfl | (simp; done) | (simp only [← hji4] <;> (first | rfl | simp)) | (simp [*]; done), bkD⟩
      · exact absurd H (by simp)
    · exact absurd H (by simp)
/-! ### reredosref01_plus: function 215 -/
def reredosref01_plus.l0 : Nat → ByteArray → ByteArray → ByteArray → Int → Int → Option (ByteArray)
  | 0, _, _, _, _, _ => none
  | k + 1, x0, x1, x5, x6, x7 => if x7 ≤ (mx (x0.size : Int) (x1.size : Int)) then ((reredosref01_digit.f x0 x7).bind fun t179 => ((reredosref01_digit.f x1 x7).bind fun t180 => ((some (([(wrap64 (48 + (Int.tmod (wrap64 ((wrap64 (t179 + t180)) + x6)) 10))) % 256] : List Int) : List Int)).bind fun y181 => (if (strOfNums y181).size + x5.size ≤ 9223372036854775807 then (reredosref01_plus.l0 k x0 x1 ((strOfNums y181) ++ x5) (wrap64 (Int.tdiv (wrap64 ((wrap64 (t179 + t180)) + x6)) 10)) (wrap64 (x7 + 1))) else (none))))) else ((reredosref01_bare.f k x5).bind fun t184 => (some t184))
def reredosref01_plus.f (k : Nat) (a0 : ByteArray) (a1 : ByteArray) : Option (ByteArray) := reredosref01_plus.l0 k a0 a1 (⟨#[]⟩ : ByteArray) 0 0
set_option maxHeartbeats 8000000 in
set_option maxRecDepth 100000 in
theorem reredosref01_plus.calls (k : Nat) (a0 : ByteArray) (a1 : ByteArray) (r : ByteArray) (w : World) (h : reredosref01_plus.f k a0 a1 = some r) :
    Calls Tryz.prog 215 #[.string a0, .string a1] w fun e w' => e = .returned (.string r) ∧ Below w.heap.size w w' := by
  have HB := Aside0.mk (Below.refl w.heap.size w)
  have H : (reredosref01_plus.l0 k a0 a1 (⟨#[]⟩ : ByteArray) 0 0) = some r := h
  clear h
  have H' := Aside0.mk H
  clear H
  go_enter Tryz.func215, Tryz.ntmps215
  go_wp2
  go_loopg [5, 6, 7] k (fun kq v5 v6 v7 w' => ∃ (x5_1 : ByteArray) (x6_1 : Int) (x7_1 : Int), v5 = .string x5_1 ∧ v6 = .int .i64 x6_1 ∧ v7 = .int .i64 x7_1 ∧ Aside0 (reredosref01_plus.l0 kq a0 a1 x5_1 x6_1 x7_1 = some r) ∧ Aside0 (kq ≤ k) ∧ Aside0 (Below w.heap.size w w'))
  case atStart => exact ⟨((⟨#[]⟩ : ByteArray)), (0), (0), bkF, bkF, bkF, H', ⟨Nat.le_refl _⟩, ⟨bkB⟩⟩
  case round =>
    clear H'
    try clear c2
    try clear p2
    obtain ⟨x5_1, x6_1, x7_1, rfl, rfl, rfl, HA, HK1, HB⟩ := hrel
    cases gk with
    | zero => exact absurd HA.out (by simp [reredosref01_plus.l0])
    | succ k1 =>
      have H := HA.out
      clear HA
      simp only [reredosref01_plus.l0] at H
      obtain ⟨ji3, hji3⟩ : ∃ j_ : Int, (mx (a0.size : Int) (a1.size : Int)) = j_ := ⟨_, rfl⟩
      replace H : (if x7_1 ≤ (ji3) then ((reredosref01_digit.f a0 x7_1).bind fun t179 => ((reredosref01_digit.f a1 x7_1).bind fun t180 => ((some (([(wrap64 (48 + (Int.tmod (wrap64 ((wrap64 (t179 + t180)) + x6_1)) 10))) % 256] : List Int) : List Int)).bind fun y181 => (if (strOfNums y181).size + x5_1.size ≤ 9223372036854775807 then (reredosref01_plus.l0 k1 a0 a1 ((strOfNums y181) ++ x5_1) (wrap64 (Int.tdiv (wrap64 ((wrap64 (t179 + t180)) + x6_1)) 10)) (wrap64 (x7_1 + 1))) else (none))))) else ((reredosref01_bare.f k1 x5_1).bind fun t184 => (some t184))) = some r := by first | (rw [hji3] at H; exact H) | (simp only [hji3] at H ⊢; exact H)
      have hji3_ : (if (a0.size : Int) < (a1.size : Int) then (a1.size : Int) else (a0.size : Int)) = ji3 := hji3
      have hji3n : (if a0.size < a1.size then (a1.size : Int) else (a0.size : Int)) = ji3 := by simpa only [Int.ofNat_lt] using hji3_
      refine iteE H ?_ ?_ <;> clear H <;> intro c4 H
      · have c4b0 : decide (x7_1 ≤ (ji3)) = true := decide_eq_true c4
        clear c4
        refine bnd H ?_; clear H; intro t179 A5 H
        go_wp2_with (first | ((with_reducible refine gate_callee (f := 243) rfl ?_); refine goesC (args := #[.string a0, .int .i64 x7_1]) Tryz.func243 (some 20) (reredosref01_digit.calls a0 x7_1 t179 _ A5.out) ?_; rintro e w' ⟨rfl, ⟨nd, rfl⟩⟩; refine ⟨_, rfl, ?_⟩; refine halt ?_))
        refine ⟨?_⟩
        refine bnd H ?_; clear H; intro t180 A6 H
        go_wp2_with (first | ((with_reducible refine gate_callee (f := 243) rfl ?_); refine goesC (args := #[.string a1, .int .i64 x7_1]) Tryz.func243 (some 23) (reredosref01_digit.calls a1 x7_1 t180 _ A6.out) ?_; rintro e w' ⟨rfl, ⟨nd, rfl⟩⟩; refine ⟨_, rfl, ?_⟩; refine halt ?_))
        refine ⟨?_⟩
        obtain ⟨y181, hy181⟩ : ∃ y_ : List Int, y_ = (([(wrap64 (48 + (Int.tmod (wrap64 ((wrap64 (t179 + t180)) + x6_1)) 10))) % 256] : List Int)) := ⟨_, rfl⟩
        replace H : (if (strOfNums y181).size + x5_1.size ≤ 9223372036854775807 then (reredosref01_plus.l0 k1 a0 a1 ((strOfNums y181) ++ x5_1) (wrap64 (Int.tdiv (wrap64 ((wrap64 (t179 + t180)) + x6_1)) 10)) (wrap64 (x7_1 + 1))) else (none)) = some r := by first | (rw [hy181]; with_reducible exact H) | (have H2_ := (Option.bind_some _ _).symm.trans H; rw [hy181]; with_reducible exact H2_) | (have H2_ := (Option.bind_some _ _).symm.trans H; with_reducible exact H2_) | with_reducible exact H | (rw [hy181]; exact H) | exact H
        have Ny181 := Aside0.mk hy181
        clear hy181
        refine iteE H ?_ ?_ <;> clear H <;> intro c7 H
        · have c7b0 := eq_true c7
          have c7b1 : decide ((strOfNums y181).size + x5_1.size ≤ 9223372036854775807) = true := decide_eq_true c7
          try have c7b2 : (9223372036854775807 < (strOfNums y181).size + x5_1.size) = False := eq_false (Nat.not_lt.2 c7)
          have H' := Aside0.mk H
          clear H
          go_wp2_with (first | ((with_reducible refine gate_dst (N := 31) rfl ?_); refine Kd.R_lit (Kd.int .u8) _ 5 ?hg (N := 31) ?hd (xs := ([(wrap64 (48 + (Int.tmod (wrap64 ((wrap64 (t179 + t180)) + x6_1)) 10))) % 256] : List Int)) (inner := [.int .u8 ((wrap64 (48 + (Int.tmod (wrap64 ((wrap64 (t179 + t180)) + x6_1)) 10))) % 256)]) (ok := fun _ => True) (okp := fun _ => True) ?hr ?hp (fun _ hk => hk) trivial (Below.refl _ _) (Nat.le_refl _) (by simp) ?_; (case hd => rfl); (case hg => rfl); (case hr => first | (go_simp; done) | (go_simp; rfl)); (case hp => exact (Reps.one (show Kd.M (Kd.int .u8) _ _ _ ((wrap64 (48 + (Int.tmod (wrap64 ((wrap64 (t179 + t180)) + x6_1)) 10))) % 256) [.int .u8 ((wrap64 (48 + (Int.tmod (wrap64 ((wrap64 (t179 + t180)) + x6_1)) 10))) % 256)] from rfl) (Reps.none _ _))); intro v182 w8 ho9 hb hg_ hnew_; clear hg_ hnew_; (first | rw [← Ny181.out] at ho9 | (simp only [Int.reduceToNat] at ho9; rw [← Ny181.out] at ho9)); have n0_ := Aside0.mk (Kd.R_lower ho9 (below_size bkB)); have n1_ := Aside0.mk (below_step bkB hb); clear HB; have HO183 := n0_; have HB := n1_; clear n0_ n1_; clear hb ho9; have hcv10 := own_string (P := Tryz.prog) Tryz.underlying135 Tryz.underlying5 Tryz.underlying9 (Kd.own_of_R HO183.out)))
          go_roundg k1
          case measure => have := HK1.out; omega
          case rel => exact ⟨((strOfNums y181) ++ x5_1), (wrap64 (Int.tdiv (wrap64 ((wrap64 (t179 + t180)) + x6_1)) 10)), (wrap64 (x7_1 + 1)), bkF, bkF, bkF, H', ⟨by have := HK1.out; omega⟩, ⟨bkB⟩⟩
        · exact absurd H (by simp)
      · have c4b0 : decide (x7_1 ≤ (ji3)) = false := decide_eq_false c4
        clear c4
        refine bnd H ?_; clear H; intro t184 A11 H
        go_wp2_with (first | ((with_reducible refine gate_callee (f := 218) rfl ?_); refine goesC (args := #[.string x5_1]) Tryz.func218 (some 38) (reredosref01_bare.calls k1 x5_1 t184 _ A11.out) ?_; rintro e w' ⟨rfl, ⟨nd, rfl⟩⟩; refine ⟨_, rfl, ?_⟩; refine halt ?_))
        refine ⟨?_⟩
        obtain rfl := Option.some.inj H
        go_wp2
        go_ret
        exact ⟨by first | rfl | (simp [errW_none, errW_some] <;> rfl) | (simp only [← hji3]; first | rfl | (simp [errW_none, errW_some] <;> rfl)) | (simp [*, errW_none, errW_some] <;> rfl), bkB⟩
/-! ### reredosref01_more: function 216 -/
def reredosref01_more.l0 : Nat → ByteArray → ByteArray → Int → Option (Int)
  | 0, _, _, _ => none
  | k + 1, x0, x1, x5 => if x5 < (x0.size : Int) then (if 0 ≤ x5 then (if x5 < (x1.size : Int) then (if (bt x0 x5) < (bt x1 x5) then (some (-1)) else (if (bt x0 x5) > (bt x1 x5) then (some 1) else (reredosref01_more.l0 k x0 x1 (wrap64 (x5 + 1))))) else (none)) else (none)) else (some 0)
def reredosref01_more.f (k : Nat) (a0 : ByteArray) (a1 : ByteArray) : Option (Int) := if (a0.size : Int) = (a1.size : Int) then (reredosref01_more.l0 k a0 a1 0) else (if (a0.size : Int) < (a1.size : Int) then (some (-1)) else (some 1))
set_option maxHeartbeats 8000000 in
set_option maxRecDepth 100000 in
theorem reredosref01_more.calls (k : Nat) (a0 : ByteArray) (a1 : ByteArray) (r : Int) (w : World) (h : reredosref01_more.f k a0 a1 = some r) :
    Calls Tryz.prog 216 #[.string a0, .string a1] w fun e w' => e = .returned (.int .i64 r) ∧ Drawn0 w w' := by
  have H : (if (a0.size : Int) = (a1.size : Int) then (reredosref01_more.l0 k a0 a1 0) else (if (a0.size : Int) < (a1.size : Int) then (some (-1)) else (some 1))) = some r := h
  clear h
  refine iteE H ?_ ?_ <;> clear H <;> intro c3 H
  · have c3b0 : ((a0.size : Int) == (a1.size : Int)) = true := beq_iff_eq.mpr c3
    have c3b1 : ((a0.size : Int) != (a1.size : Int)) = false := bne_eq_false_iff_eq.mpr c3
    have c3b2 : (a0.size == a1.size) = true := by first | simpa using c3 | (simp at c3 ⊢; omega)
    clear c3
    have H' := Aside0.mk H
    clear H
    go_enter Tryz.func216, Tryz.ntmps216
    go_wp2
    repeat (go_quiet (fail); try go_wp2)
    go_loopg [5] k (fun kq v5 w' => ∃ (x5_1 : Int), v5 = .int .i64 x5_1 ∧ Aside0 (reredosref01_more.l0 kq a0 a1 x5_1 = some r) ∧ Aside0 (kq ≤ k) ∧ Drawn0 w w')
    case atStart => exact ⟨(0), bkF, H', ⟨Nat.le_refl _⟩, bkD⟩
    case round =>
      clear H'
      try clear c2
      try clear p2
      try clear c3
      try clear c3b0
      try clear c3b1
      try clear c3b2
      obtain ⟨x5_1, rfl, HA, HK1, ⟨m1, rfl⟩⟩ := hrel
      cases gk with
      | zero => exact absurd HA.out (by simp [reredosref01_more.l0])
      | succ k1 =>
        have H := HA.out
        clear HA
        simp only [reredosref01_more.l0] at H
        refine iteE H ?_ ?_ <;> clear H <;> intro c4 H
        · have c4b0 : decide (x5_1 < (a0.size : Int)) = true := decide_eq_true c4
          clear c4
          refine iteE H ?_ ?_ <;> clear H <;> intro c5 H
          · have c5b0 : decide (0 ≤ x5_1) = true := decide_eq_true c5
            clear c5
            refine iteE H ?_ ?_ <;> clear H <;> intro c7 H
            · have c7b0 : decide (x5_1 < (a1.size : Int)) = true := decide_eq_true c7
              clear c7
              refine iteE H ?_ ?_ <;> clear H <;> intro c9 H
              · have c9b0 : decide ((bt a0 x5_1) < (bt a1 x5_1)) = true := decide_eq_true c9
                clear c9
                obtain rfl := Option.some.inj H
                have p6 : 0 ≤ (x5_1 : Int) := of_decide_eq_true (by first | (with_reducible assumption) | assumption)
                have q6 : x5_1 < (a0.size : Int) := of_decide_eq_true (by first | (with_reducible assumption) | assumption)
                have hx6 := bt_at a0 x5_1
                replace p6 := eq_true p6
                replace q6 := eq_true q6
                have p8 : 0 ≤ (x5_1 : Int) := of_decide_eq_true (by first | (with_reducible assumption) | assumption)
                have q8 : x5_1 < (a1.size : Int) := of_decide_eq_true (by first | (with_reducible assumption) | assumption)
                have hx8 := bt_at a1 x5_1
                replace p8 := eq_true p8
                replace q8 := eq_true q8
                go_wp2
                repeat (go_quiet (fail); try go_wp2)
                go_ret
                exact ⟨bkF, bkD⟩
              · have c9b0 : decide ((bt a0 x5_1) < (bt a1 x5_1)) = false := decide_eq_false c9
                clear c9
                refine iteE H ?_ ?_ <;> clear H <;> intro c12 H
                · have c12b0 : decide ((bt a1 x5_1) < (bt a0 x5_1)) = true := decide_eq_true c12
                  clear c12
                  obtain rfl := Option.some.inj H
                  have p6 : 0 ≤ (x5_1 : Int) := of_decide_eq_true (by first | (with_reducible assumption) | assumption)
                  have q6 : x5_1 < (a0.size : Int) := of_decide_eq_true (by first | (with_reducible assumption) | assumption)
                  have hx6 := bt_at a0 x5_1
                  replace p6 := eq_true p6
                  replace q6 := eq_true q6
                  have p8 : 0 ≤ (x5_1 : Int) := of_decide_eq_true (by first | (with_reducible assumption) | assumption)
                  have q8 : x5_1 < (a1.size : Int) := of_decide_eq_true (by first | (with_reducible assumption) | assumption)
                  have hx8 := bt_at a1 x5_1
                  replace p8 := eq_true p8
                  replace q8 := eq_true q8
                  have p10 : 0 ≤ (x5_1 : Int) := of_decide_eq_true (by first | (with_reducible assumption) | assumption)
                  have q10 : x5_1 < (a0.size : Int) := of_decide_eq_true (by first | (with_reducible assumption) | assumption)
                  have hx10 := bt_at a0 x5_1
                  replace p10 := eq_true p10
                  replace q10 := eq_true q10
                  have p11 : 0 ≤ (x5_1 : Int) := of_decide_eq_true (by first | (with_reducible assumption) | assumption)
                  have q11 : x5_1 < (a1.size : Int) := of_decide_eq_true (by first | (with_reducible assumption) | assumption)
                  have hx11 := bt_at a1 x5_1
                  replace p11 := eq_true p11
                  replace q11 := eq_true q11
                  go_wp2
                  repeat (go_quiet (fail); try go_wp2)
                  go_ret
                  exact ⟨bkF, bkD⟩
                · have c12b0 : decide ((bt a1 x5_1) < (bt a0 x5_1)) = false := decide_eq_false c12
                  clear c12
                  have H' := Aside0.mk H
                  clear H
                  have p6 : 0 ≤ (x5_1 : Int) := of_decide_eq_true (by first | (with_reducible assumption) | assumption)
                  have q6 : x5_1 < (a0.size : Int) := of_decide_eq_true (by first | (with_reducible assumption) | assumption)
                  have hx6 := bt_at a0 x5_1
                  replace p6 := eq_true p6
                  replace q6 := eq_true q6
                  have p8 : 0 ≤ (x5_1 : Int) := of_decide_eq_true (by first | (with_reducible assumption) | assumption)
                  have q8 : x5_1 < (a1.size : Int) := of_decide_eq_true (by first | (with_reducible assumption) | assumption)
                  have hx8 := bt_at a1 x5_1
                  replace p8 := eq_true p8
                  replace q8 := eq_true q8
                  have p10 : 0 ≤ (x5_1 : Int) := of_decide_eq_true (by first | (with_reducible assumption) | assumption)
                  have q10 : x5_1 < (a0.size : Int) := of_decide_eq_true (by first | (with_reducible assumption) | assumption)
                  have hx10 := bt_at a0 x5_1
                  replace p10 := eq_true p10
                  replace q10 := eq_true q10
                  have p11 : 0 ≤ (x5_1 : Int) := of_decide_eq_true (by first | (with_reducible assumption) | assumption)
                  have q11 : x5_1 < (a1.size : Int) := of_decide_eq_true (by first | (with_reducible assumption) | assumption)
                  have hx11 := bt_at a1 x5_1
                  replace p11 := eq_true p11
                  replace q11 := eq_true q11
                  go_wp2
                  repeat (go_quiet (fail); try go_wp2)
                  go_roundg k1
                  case measure => have := HK1.out; omega
                  case rel => exact ⟨(wrap64 (x5_1 + 1)), bkF, H', ⟨by have := HK1.out; omega⟩, bkD⟩
            · exact absurd H (by simp)
          · exact absurd H (by simp)
        · have c4b0 : decide (x5_1 < (a0.size : Int)) = false := decide_eq_false c4
          clear c4
          obtain rfl := Option.some.inj H
          go_wp2
          repeat (go_quiet (fail); try go_wp2)
          go_ret
          exact ⟨bkF, bkD⟩
  · have c3b0 : ((a0.size : Int) == (a1.size : Int)) = false := beq_eq_false_iff_ne.mpr c3
    have c3b1 : ((a0.size : Int) != (a1.size : Int)) = true := bne_iff_ne.mpr c3
    have c3b2 : (a0.size == a1.size) = false := by first | simpa using c3 | (simp at c3 ⊢; omega)
    refine iteE H ?_ ?_ <;> clear H <;> intro c13 H
    · have c13b0 : decide ((a0.size : Int) < (a1.size : Int)) = true := decide_eq_true c13
      have c13b1 : decide (a0.size < a1.size) = true := decide_eq_true (Int.ofNat_lt.mp c13)
      clear c13
      obtain rfl := Option.some.inj H
      go_enter Tryz.func216, Tryz.ntmps216
      go_wp2
      repeat (go_quiet (fail); try go_wp2)
      go_ret
      exact ⟨bkF, bkD⟩
    · have c13b0 : decide ((a0.size : Int) < (a1.size : Int)) = false := decide_eq_false c13
      have c13b1 : decide (a0.size < a1.size) = false := decide_eq_false (fun h => c13 (Int.ofNat_lt.mpr h))
      clear c13
      obtain rfl := Option.some.inj H
      go_enter Tryz.func216, Tryz.ntmps216
      go_wp2
      repeat (go_quiet (fail); try go_wp2)
      go_ret
      exact ⟨bkF, bkD⟩
/-! ### reredosref01_minus: function 217 -/
def reredosref01_minus.l0 : Nat → ByteArray → ByteArray → ByteArray → Int → Int → Option (ByteArray)
  | 0, _, _, _, _, _ => none
  | k + 1, x0, x1, x5, x6, x7 => if x7 < (x0.size : Int) then ((reredosref01_digit.f x0 x7).bind fun t186 => ((reredosref01_digit.f x1 x7).bind fun t187 => (if (wrap64 ((wrap64 (t186 - t187)) - x6)) < 0 then ((some (([(wrap64 (48 + (wrap64 ((wrap64 ((wrap64 (t186 - t187)) - x6)) + 10)))) % 256] : List Int) : List Int)).bind fun y188 => (if (strOfNums y188).size + x5.size ≤ 9223372036854775807 then (reredosref01_minus.l0 k x0 x1 ((strOfNums y188) ++ x5) 1 (wrap64 (x7 + 1))) else (none))) else ((some (([(wrap64 (48 + (wrap64 ((wrap64 (t186 - t187)) - x6)))) % 256] : List Int) : List Int)).bind fun y191 => (if (strOfNums y191).size + x5.size ≤ 9223372036854775807 then (reredosref01_minus.l0 k x0 x1 ((strOfNums y191) ++ x5) 0 (wrap64 (x7 + 1))) else (none)))))) else ((reredosref01_bare.f k x5).bind fun t185 => (some t185))
def reredosref01_minus.f (k : Nat) (a0 : ByteArray) (a1 : ByteArray) : Option (ByteArray) := reredosref01_minus.l0 k a0 a1 (⟨#[]⟩ : ByteArray) 0 0
set_option maxHeartbeats 8000000 in
set_option maxRecDepth 100000 in
theorem reredosref01_minus.calls (k : Nat) (a0 : ByteArray) (a1 : ByteArray) (r : ByteArray) (w : World) (h : reredosref01_minus.f k a0 a1 = some r) :
    Calls Tryz.prog 217 #[.string a0, .string a1] w fun e w' => e = .returned (.string r) ∧ Below w.heap.size w w' := by
  have HB := Aside0.mk (Below.refl w.heap.size w)
  have H : (reredosref01_minus.l0 k a0 a1 (⟨#[]⟩ : ByteArray) 0 0) = some r := h
  clear h
  have H' := Aside0.mk H
  clear H
  go_enter Tryz.func217, Tryz.ntmps217
  go_wp2
  go_loopg [5, 6, 7] k (fun kq v5 v6 v7 w' => ∃ (x5_1 : ByteArray) (x6_1 : Int) (x7_1 : Int), v5 = .string x5_1 ∧ v6 = .int .i64 x6_1 ∧ v7 = .int .i64 x7_1 ∧ Aside0 (reredosref01_minus.l0 kq a0 a1 x5_1 x6_1 x7_1 = some r) ∧ Aside0 (kq ≤ k) ∧ Aside0 (Below w.heap.size w w'))
  case atStart => exact ⟨((⟨#[]⟩ : ByteArray)), (0), (0), bkF, bkF, bkF, H', ⟨Nat.le_refl _⟩, ⟨bkB⟩⟩
  case round =>
    clear H'
    try clear c2
    try clear p2
    obtain ⟨x5_1, x6_1, x7_1, rfl, rfl, rfl, HA, HK1, HB⟩ := hrel
    cases gk with
    | zero => exact absurd HA.out (by simp [reredosref01_minus.l0])
    | succ k1 =>
      have H := HA.out
      clear HA
      simp only [reredosref01_minus.l0] at H
      refine iteE H ?_ ?_ <;> clear H <;> intro c3 H
      · have c3b0 : decide (x7_1 < (a0.size : Int)) = true := decide_eq_true c3
        clear c3
        refine bnd H ?_; clear H; intro t186 A4 H
        go_wp2_with (first | ((with_reducible refine gate_callee (f := 243) rfl ?_); refine goesC (args := #[.string a0, .int .i64 x7_1]) Tryz.func243 (some 17) (reredosref01_digit.calls a0 x7_1 t186 _ A4.out) ?_; rintro e w' ⟨rfl, ⟨nd, rfl⟩⟩; refine ⟨_, rfl, ?_⟩; refine halt ?_))
        refine ⟨?_⟩
        refine bnd H ?_; clear H; intro t187 A5 H
        go_wp2_with (first | ((with_reducible refine gate_callee (f := 243) rfl ?_); refine goesC (args := #[.string a1, .int .i64 x7_1]) Tryz.func243 (some 20) (reredosref01_digit.calls a1 x7_1 t187 _ A5.out) ?_; rintro e w' ⟨rfl, ⟨nd, rfl⟩⟩; refine ⟨_, rfl, ?_⟩; refine halt ?_))
        refine ⟨?_⟩
        refine iteE H ?_ ?_ <;> clear H <;> intro c6 H
        · have c6b0 : decide ((wrap64 ((wrap64 (t186 - t187)) - x6_1)) < 0) = true := decide_eq_true c6
          clear c6
          obtain ⟨y188, hy188⟩ : ∃ y_ : List Int, y_ = (([(wrap64 (48 + (wrap64 ((wrap64 ((wrap64 (t186 - t187)) - x6_1)) + 10)))) % 256] : List Int)) := ⟨_, rfl⟩
          replace H : (if (strOfNums y188).size + x5_1.size ≤ 9223372036854775807 then (reredosref01_minus.l0 k1 a0 a1 ((strOfNums y188) ++ x5_1) 1 (wrap64 (x7_1 + 1))) else (none)) = some r := by first | (rw [hy188]; with_reducible exact H) | (have H2_ := (Option.bind_some _ _).symm.trans H; rw [hy188]; with_reducible exact H2_) | (have H2_ := (Option.bind_some _ _).symm.trans H; with_reducible exact H2_) | with_reducible exact H | (rw [hy188]; exact H) | exact H
          have Ny188 := Aside0.mk hy188
          clear hy188
          refine iteE H ?_ ?_ <;> clear H <;> intro c7 H
          · have c7b0 := eq_true c7
            have c7b1 : decide ((strOfNums y188).size + x5_1.size ≤ 9223372036854775807) = true := decide_eq_true c7
            try have c7b2 : (9223372036854775807 < (strOfNums y188).size + x5_1.size) = False := eq_false (Nat.not_lt.2 c7)
            have H' := Aside0.mk H
            clear H
            go_wp2_with (first | ((with_reducible refine gate_dst (N := 31) rfl ?_); refine Kd.R_lit (Kd.int .u8) _ 5 ?hg (N := 31) ?hd (xs := ([(wrap64 (48 + (wrap64 ((wrap64 ((wrap64 (t186 - t187)) - x6_1)) + 10)))) % 256] : List Int)) (inner := [.int .u8 ((wrap64 (48 + (wrap64 ((wrap64 ((wrap64 (t186 - t187)) - x6_1)) + 10)))) % 256)]) (ok := fun _ => True) (okp := fun _ => True) ?hr ?hp (fun _ hk => hk) trivial (Below.refl _ _) (Nat.le_refl _) (by simp) ?_; (case hd => rfl); (case hg => rfl); (case hr => first | (go_simp; done) | (go_simp; rfl)); (case hp => exact (Reps.one (show Kd.M (Kd.int .u8) _ _ _ ((wrap64 (48 + (wrap64 ((wrap64 ((wrap64 (t186 - t187)) - x6_1)) + 10)))) % 256) [.int .u8 ((wrap64 (48 + (wrap64 ((wrap64 ((wrap64 (t186 - t187)) - x6_1)) + 10)))) % 256)] from rfl) (Reps.none _ _))); intro v189 w8 ho9 hb hg_ hnew_; clear hg_ hnew_; (first | rw [← Ny188.out] at ho9 | (simp only [Int.reduceToNat] at ho9; rw [← Ny188.out] at ho9)); have n0_ := Aside0.mk (Kd.R_lower ho9 (below_size bkB)); have n1_ := Aside0.mk (below_step bkB hb); clear HB; have HO190 := n0_; have HB := n1_; clear n0_ n1_; clear hb ho9; have hcv10 := own_string (P := Tryz.prog) Tryz.underlying135 Tryz.underlying5 Tryz.underlying9 (Kd.own_of_R HO190.out)))
            go_roundg k1
            case measure => have := HK1.out; omega
            case rel => exact ⟨((strOfNums y188) ++ x5_1), (1), (wrap64 (x7_1 + 1)), bkF, bkF, bkF, H', ⟨by have := HK1.out; omega⟩, ⟨bkB⟩⟩
          · exact absurd H (by simp)
        · have c6b0 : decide ((wrap64 ((wrap64 (t186 - t187)) - x6_1)) < 0) = false := decide_eq_false c6
          clear c6
          obtain ⟨y191, hy191⟩ : ∃ y_ : List Int, y_ = (([(wrap64 (48 + (wrap64 ((wrap64 (t186 - t187)) - x6_1)))) % 256] : List Int)) := ⟨_, rfl⟩
          replace H : (if (strOfNums y191).size + x5_1.size ≤ 9223372036854775807 then (reredosref01_minus.l0 k1 a0 a1 ((strOfNums y191) ++ x5_1) 0 (wrap64 (x7_1 + 1))) else (none)) = some r := by first | (rw [hy191]; with_reducible exact H) | (have H2_ := (Option.bind_some _ _).symm.trans H; rw [hy191]; with_reducible exact H2_) | (have H2_ := (Option.bind_some _ _).symm.trans H; with_reducible exact H2_) | with_reducible exact H | (rw [hy191]; exact H) | exact H
          have Ny191 := Aside0.mk hy191
          clear hy191
          refine iteE H ?_ ?_ <;> clear H <;> intro c11 H
          · have c11b0 := eq_true c11
            have c11b1 : decide ((strOfNums y191).size + x5_1.size ≤ 9223372036854775807) = true := decide_eq_true c11
            try have c11b2 : (9223372036854775807 < (strOfNums y191).size + x5_1.size) = False := eq_false (Nat.not_lt.2 c11)
            have H' := Aside0.mk H
            clear H
            go_wp2_with (first | ((with_reducible refine gate_dst (N := 31) rfl ?_); refine Kd.R_lit (Kd.int .u8) _ 5 ?hg (N := 31) ?hd (xs := ([(wrap64 (48 + (wrap64 ((wrap64 (t186 - t187)) - x6_1)))) % 256] : List Int)) (inner := [.int .u8 ((wrap64 (48 + (wrap64 ((wrap64 (t186 - t187)) - x6_1)))) % 256)]) (ok := fun _ => True) (okp := fun _ => True) ?hr ?hp (fun _ hk => hk) trivial (Below.refl _ _) (Nat.le_refl _) (by simp) ?_; (case hd => rfl); (case hg => rfl); (case hr => first | (go_simp; done) | (go_simp; rfl)); (case hp => exact (Reps.one (show Kd.M (Kd.int .u8) _ _ _ ((wrap64 (48 + (wrap64 ((wrap64 (t186 - t187)) - x6_1)))) % 256) [.int .u8 ((wrap64 (48 + (wrap64 ((wrap64 (t186 - t187)) - x6_1)))) % 256)] from rfl) (Reps.none _ _))); intro v192 w12 ho13 hb hg_ hnew_; clear hg_ hnew_; (first | rw [← Ny191.out] at ho13 | (simp only [Int.reduceToNat] at ho13; rw [← Ny191.out] at ho13)); have n0_ := Aside0.mk (Kd.R_lower ho13 (below_size bkB)); have n1_ := Aside0.mk (below_step bkB hb); clear HB; have HO193 := n0_; have HB := n1_; clear n0_ n1_; clear hb ho13; have hcv14 := own_string (P := Tryz.prog) Tryz.underlying135 Tryz.underlying5 Tryz.underlying9 (Kd.own_of_R HO193.out)))
            go_roundg k1
            case measure => have := HK1.out; omega
            case rel => exact ⟨((strOfNums y191) ++ x5_1), (0), (wrap64 (x7_1 + 1)), bkF, bkF, bkF, H', ⟨by have := HK1.out; omega⟩, ⟨bkB⟩⟩
          · exact absurd H (by simp)
      · have c3b0 : decide (x7_1 < (a0.size : Int)) = false := decide_eq_false c3
        clear c3
        refine bnd H ?_; clear H; intro t185 A15 H
        go_wp2_with (first | ((with_reducible refine gate_callee (f := 218) rfl ?_); refine goesC (args := #[.string x5_1]) Tryz.func218 (some 36) (reredosref01_bare.calls k1 x5_1 t185 _ A15.out) ?_; rintro e w' ⟨rfl, ⟨nd, rfl⟩⟩; refine ⟨_, rfl, ?_⟩; refine halt ?_))
        refine ⟨?_⟩
        obtain rfl := Option.some.inj H
        go_wp2
        go_ret
        exact ⟨bkE, bkB⟩
/-! ### reredosref01_sum: function 187 -/
def reredosref01_sum.f (k : Nat) (a0 : ByteArray) (a1 : ByteArray) : Option (ByteArray) := (reredosref01_low.f a0).bind fun t194 => ((reredosref01_low.f a1).bind fun t195 => (if (t194 == t195) = true then ((reredosref01_size.f a0).bind fun t196 => ((reredosref01_size.f a1).bind fun t197 => ((reredosref01_plus.f k t196 t197).bind fun t198 => ((reredosref01_low.f a0).bind fun t199 => ((reredosref01_signed.f k t198 t199).bind fun t200 => (some t200)))))) else ((reredosref01_size.f a0).bind fun t201 => ((reredosref01_size.f a1).bind fun t202 => ((reredosref01_more.f k t201 t202).bind fun t203 => (if t203 ≥ 0 then ((reredosref01_size.f a0).bind fun t204 => ((reredosref01_size.f a1).bind fun t205 => ((reredosref01_minus.f k t204 t205).bind fun t206 => ((reredosref01_low.f a0).bind fun t207 => ((reredosref01_signed.f k t206 t207).bind fun t208 => (some t208)))))) else ((reredosref01_size.f a1).bind fun t209 => ((reredosref01_size.f a0).bind fun t210 => ((reredosref01_minus.f k t209 t210).bind fun t211 => ((reredosref01_low.f a1).bind fun t212 => ((reredosref01_signed.f k t211 t212).bind fun t213 => (some t213))))))))))))
set_option maxHeartbeats 8000000 in
set_option maxRecDepth 100000 in
theorem reredosref01_sum.calls (k : Nat) (a0 : ByteArray) (a1 : ByteArray) (r : ByteArray) (w : World) (h : reredosref01_sum.f k a0 a1 = some r) :
    Calls Tryz.prog 187 #[.string a0, .string a1] w fun e w' => e = .returned (.string r) ∧ Below w.heap.size w w' := by
  have HB := Aside0.mk (Below.refl w.heap.size w)
  have H : ((reredosref01_low.f a0).bind fun t194 => ((reredosref01_low.f a1).bind fun t195 => (if (t194 == t195) = true then ((reredosref01_size.f a0).bind fun t196 => ((reredosref01_size.f a1).bind fun t197 => ((reredosref01_plus.f k t196 t197).bind fun t198 => ((reredosref01_low.f a0).bind fun t199 => ((reredosref01_signed.f k t198 t199).bind fun t200 => (some t200)))))) else ((reredosref01_size.f a0).bind fun t201 => ((reredosref01_size.f a1).bind fun t202 => ((reredosref01_more.f k t201 t202).bind fun t203 => (if t203 ≥ 0 then ((reredosref01_size.f a0).bind fun t204 => ((reredosref01_size.f a1).bind fun t205 => ((reredosref01_minus.f k t204 t205).bind fun t206 => ((reredosref01_low.f a0).bind fun t207 => ((reredosref01_signed.f k t206 t207).bind fun t208 => (some t208)))))) else ((reredosref01_size.f a1).bind fun t209 => ((reredosref01_size.f a0).bind fun t210 => ((reredosref01_minus.f k t209 t210).bind fun t211 => ((reredosref01_low.f a1).bind fun t212 => ((reredosref01_signed.f k t211 t212).bind fun t213 => (some t213))))))))))))) = some r := h
  clear h
  refine bnd H ?_; clear H; intro t194 A3 H
  refine bnd H ?_; clear H; intro t195 A4 H
  refine iteE H ?_ ?_ <;> clear H <;> intro c5 H
  · have c5b0 : (t194 == t195) = true := c5
    (try (have c5b1 : decide (t194 = t195) = true := by simpa using c5))
    (try (have c5b2 : (t194 == t195) = true := by simpa using c5))
    clear c5
    refine bnd H ?_; clear H; intro t196 A6 H
    refine bnd H ?_; clear H; intro t197 A7 H
    refine bnd H ?_; clear H; intro t198 A8 H
    refine bnd H ?_; clear H; intro t199 A9 H
    refine bnd H ?_; clear H; intro t200 A10 H
    obtain rfl := Option.some.inj H
    go_enter Tryz.func187, Tryz.ntmps187
    go_wp2_with (first | ((with_reducible refine gate_callee (f := 183) rfl ?_); refine goesL_ (some 6) rfl rfl Tryz.func183 (by kernel_rfl) rfl #[.string a0] rfl bkA ?_; (with_reducible refine (reredosref01_low.calls a0 t194 _ A3.out).mono ?_); rintro e w' ⟨rfl, ⟨nd, rfl⟩⟩; refine ⟨_, rfl, ?_⟩) | ((with_reducible refine gate_callee (f := 183) rfl ?_); refine goesL_ (some 8) rfl rfl Tryz.func183 (by kernel_rfl) rfl #[.string a1] rfl bkA ?_; (with_reducible refine (reredosref01_low.calls a1 t195 _ A4.out).mono ?_); rintro e w' ⟨rfl, ⟨nd, rfl⟩⟩; refine ⟨_, rfl, ?_⟩) | ((with_reducible refine gate_callee (f := 182) rfl ?_); refine goesL_ (some 11) rfl rfl Tryz.func182 (by kernel_rfl) rfl #[.string a0] rfl bkA ?_; (with_reducible refine (reredosref01_size.calls a0 t196 _ A6.out).mono ?_); rintro e w' ⟨rfl, ⟨nd, rfl⟩⟩; refine ⟨_, rfl, ?_⟩) | ((with_reducible refine gate_callee (f := 182) rfl ?_); refine goesL_ (some 13) rfl rfl Tryz.func182 (by kernel_rfl) rfl #[.string a1] rfl bkA ?_; (with_reducible refine (reredosref01_size.calls a1 t197 _ A7.out).mono ?_); rintro e w' ⟨rfl, ⟨nd, rfl⟩⟩; refine ⟨_, rfl, ?_⟩) | ((with_reducible refine gate_callee (f := 215) rfl ?_); refine goesL_ (some 14) rfl rfl Tryz.func215 (by kernel_rfl) rfl #[.string t196, .string t197] rfl bkA ?_; (with_reducible refine (reredosref01_plus.calls k t196 t197 t198 _ A8.out).mono ?_); rintro e w11 ⟨rfl, hb⟩; refine ⟨_, rfl, ?_⟩; replace HB := bkS hb; clear hb; (try clear hb2); (try clear hk); (try clear hi)) | ((with_reducible refine gate_callee (f := 183) rfl ?_); refine goesL_ (some 16) rfl rfl Tryz.func183 (by kernel_rfl) rfl #[.string a0] rfl bkA ?_; (with_reducible refine (reredosref01_low.calls a0 t199 _ A9.out).mono ?_); rintro e w' ⟨rfl, ⟨nd, rfl⟩⟩; refine ⟨_, rfl, ?_⟩) | ((with_reducible refine gate_callee (f := 214) rfl ?_); refine goesL_ (some 17) rfl rfl Tryz.func214 (by kernel_rfl) rfl #[.string t198, .bool t199] rfl bkA ?_; (with_reducible refine (reredosref01_signed.calls k t198 t199 t200 _ A10.out).mono ?_); rintro e w' ⟨rfl, ⟨nd, rfl⟩⟩; refine ⟨_, rfl, ?_⟩))
    go_ret
    exact ⟨bkE, bkB⟩
  · have c5b0 : (t194 == t195) = false := by simpa using c5
    (try (have c5b1 : decide (t194 = t195) = false := by simpa using c5))
    (try (have c5b2 : (t194 == t195) = false := by simpa using c5))
    (try (have c5b3 : ¬ (t194 = t195) := by simpa using c5))
    clear c5
    refine bnd H ?_; clear H; intro t201 A12 H
    refine bnd H ?_; clear H; intro t202 A13 H
    refine bnd H ?_; clear H; intro t203 A14 H
    refine iteE H ?_ ?_ <;> clear H <;> intro c15 H
    · have c15b0 : decide (0 ≤ t203) = true := decide_eq_true c15
      clear c15
      refine bnd H ?_; clear H; intro t204 A16 H
      refine bnd H ?_; clear H; intro t205 A17 H
      refine bnd H ?_; clear H; intro t206 A18 H
      refine bnd H ?_; clear H; intro t207 A19 H
      refine bnd H ?_; clear H; intro t208 A20 H
      obtain rfl := Option.some.inj H
      go_enter Tryz.func187, Tryz.ntmps187
      go_wp2_with (first | ((with_reducible refine gate_callee (f := 183) rfl ?_); refine goesL_ (some 6) rfl rfl Tryz.func183 (by kernel_rfl) rfl #[.string a0] rfl bkA ?_; (with_reducible refine (reredosref01_low.calls a0 t194 _ A3.out).mono ?_); rintro e w' ⟨rfl, ⟨nd, rfl⟩⟩; refine ⟨_, rfl, ?_⟩) | ((with_reducible refine gate_callee (f := 183) rfl ?_); refine goesL_ (some 8) rfl rfl Tryz.func183 (by kernel_rfl) rfl #[.string a1] rfl bkA ?_; (with_reducible refine (reredosref01_low.calls a1 t195 _ A4.out).mono ?_); rintro e w' ⟨rfl, ⟨nd, rfl⟩⟩; refine ⟨_, rfl, ?_⟩) | ((with_reducible refine gate_callee (f := 182) rfl ?_); refine goesL_ (some 19) rfl rfl Tryz.func182 (by kernel_rfl) rfl #[.string a0] rfl bkA ?_; (with_reducible refine (reredosref01_size.calls a0 t201 _ A12.out).mono ?_); rintro e w' ⟨rfl, ⟨nd, rfl⟩⟩; refine ⟨_, rfl, ?_⟩) | ((with_reducible refine gate_callee (f := 182) rfl ?_); refine goesL_ (some 21) rfl rfl Tryz.func182 (by kernel_rfl) rfl #[.string a1] rfl bkA ?_; (with_reducible refine (reredosref01_size.calls a1 t202 _ A13.out).mono ?_); rintro e w' ⟨rfl, ⟨nd, rfl⟩⟩; refine ⟨_, rfl, ?_⟩) | ((with_reducible refine gate_callee (f := 216) rfl ?_); refine goesL_ (some 22) rfl rfl Tryz.func216 (by kernel_rfl) rfl #[.string t201, .string t202] rfl bkA ?_; (with_reducible refine (reredosref01_more.calls k t201 t202 t203 _ A14.out).mono ?_); rintro e w' ⟨rfl, ⟨nd, rfl⟩⟩; refine ⟨_, rfl, ?_⟩) | ((with_reducible refine gate_callee (f := 182) rfl ?_); refine goesL_ (some 25) rfl rfl Tryz.func182 (by kernel_rfl) rfl #[.string a0] rfl bkA ?_; (with_reducible refine (reredosref01_size.calls a0 t204 _ A16.out).mono ?_); rintro e w' ⟨rfl, ⟨nd, rfl⟩⟩; refine ⟨_, rfl, ?_⟩) | ((with_reducible refine gate_callee (f := 182) rfl ?_); refine goesL_ (some 27) rfl rfl Tryz.func182 (by kernel_rfl) rfl #[.string a1] rfl bkA ?_; (with_reducible refine (reredosref01_size.calls a1 t205 _ A17.out).mono ?_); rintro e w' ⟨rfl, ⟨nd, rfl⟩⟩; refine ⟨_, rfl, ?_⟩) | ((with_reducible refine gate_callee (f := 217) rfl ?_); refine goesL_ (some 28) rfl rfl Tryz.func217 (by kernel_rfl) rfl #[.string t204, .string t205] rfl bkA ?_; (with_reducible refine (reredosref01_minus.calls k t204 t205 t206 _ A18.out).mono ?_); rintro e w21 ⟨rfl, hb⟩; refine ⟨_, rfl, ?_⟩; replace HB := bkS hb; clear hb; (try clear hb2); (try clear hk); (try clear hi)) | ((with_reducible refine gate_callee (f := 183) rfl ?_); refine goesL_ (some 30) rfl rfl Tryz.func183 (by kernel_rfl) rfl #[.string a0] rfl bkA ?_; (with_reducible refine (reredosref01_low.calls a0 t207 _ A19.out).mono ?_); rintro e w' ⟨rfl, ⟨nd, rfl⟩⟩; refine ⟨_, rfl, ?_⟩) | ((with_reducible refine gate_callee (f := 214) rfl ?_); refine goesL_ (some 31) rfl rfl Tryz.func214 (by kernel_rfl) rfl #[.string t206, .bool t207] rfl bkA ?_; (with_reducible refine (reredosref01_signed.calls k t206 t207 t208 _ A20.out).mono ?_); rintro e w' ⟨rfl, ⟨nd, rfl⟩⟩; refine ⟨_, rfl, ?_⟩))
      go_ret
      exact ⟨bkE, bkB⟩
    · have c15b0 : decide (0 ≤ t203) = false := decide_eq_false c15
      clear c15
      refine bnd H ?_; clear H; intro t209 A22 H
      refine bnd H ?_; clear H; intro t210 A23 H
      refine bnd H ?_; clear H; intro t211 A24 H
      refine bnd H ?_; clear H; intro t212 A25 H
      refine bnd H ?_; clear H; intro t213 A26 H
      obtain rfl := Option.some.inj H
      go_enter Tryz.func187, Tryz.ntmps187
      go_wp2_with (first | ((with_reducible refine gate_callee (f := 183) rfl ?_); refine goesL_ (some 6) rfl rfl Tryz.func183 (by kernel_rfl) rfl #[.string a0] rfl bkA ?_; (with_reducible refine (reredosref01_low.calls a0 t194 _ A3.out).mono ?_); rintro e w' ⟨rfl, ⟨nd, rfl⟩⟩; refine ⟨_, rfl, ?_⟩) | ((with_reducible refine gate_callee (f := 183) rfl ?_); refine goesL_ (some 8) rfl rfl Tryz.func183 (by kernel_rfl) rfl #[.string a1] rfl bkA ?_; (with_reducible refine (reredosref01_low.calls a1 t195 _ A4.out).mono ?_); rintro e w' ⟨rfl, ⟨nd, rfl⟩⟩; refine ⟨_, rfl, ?_⟩) | ((with_reducible refine gate_callee (f := 182) rfl ?_); refine goesL_ (some 19) rfl rfl Tryz.func182 (by kernel_rfl) rfl #[.string a0] rfl bkA ?_; (with_reducible refine (reredosref01_size.calls a0 t201 _ A12.out).mono ?_); rintro e w' ⟨rfl, ⟨nd, rfl⟩⟩; refine ⟨_, rfl, ?_⟩) | ((with_reducible refine gate_callee (f := 182) rfl ?_); refine goesL_ (some 21) rfl rfl Tryz.func182 (by kernel_rfl) rfl #[.string a1] rfl bkA ?_; (with_reducible refine (reredosref01_size.calls a1 t202 _ A13.out).mono ?_); rintro e w' ⟨rfl, ⟨nd, rfl⟩⟩; refine ⟨_, rfl, ?_⟩) | ((with_reducible refine gate_callee (f := 216) rfl ?_); refine goesL_ (some 22) rfl rfl Tryz.func216 (by kernel_rfl) rfl #[.string t201, .string t202] rfl bkA ?_; (with_reducible refine (reredosref01_more.calls k t201 t202 t203 _ A14.out).mono ?_); rintro e w' ⟨rfl, ⟨nd, rfl⟩⟩; refine ⟨_, rfl, ?_⟩) | ((with_reducible refine gate_callee (f := 182) rfl ?_); refine goesL_ (some 33) rfl rfl Tryz.func182 (by kernel_rfl) rfl #[.string a1] rfl bkA ?_; (with_reducible refine (reredosref01_size.calls a1 t209 _ A22.out).mono ?_); rintro e w' ⟨rfl, ⟨nd, rfl⟩⟩; refine ⟨_, rfl, ?_⟩) | ((with_reducible refine gate_callee (f := 182) rfl ?_); refine goesL_ (some 35) rfl rfl Tryz.func182 (by kernel_rfl) rfl #[.string a0] rfl bkA ?_; (with_reducible refine (reredosref01_size.calls a0 t210 _ A23.out).mono ?_); rintro e w' ⟨rfl, ⟨nd, rfl⟩⟩; refine ⟨_, rfl, ?_⟩) | ((with_reducible refine gate_callee (f := 217) rfl ?_); refine goesL_ (some 36) rfl rfl Tryz.func217 (by kernel_rfl) rfl #[.string t209, .string t210] rfl bkA ?_; (with_reducible refine (reredosref01_minus.calls k t209 t210 t211 _ A24.out).mono ?_); rintro e w27 ⟨rfl, hb⟩; refine ⟨_, rfl, ?_⟩; replace HB := bkS hb; clear hb; (try clear hb2); (try clear hk); (try clear hi)) | ((with_reducible refine gate_callee (f := 183) rfl ?_); refine goesL_ (some 38) rfl rfl Tryz.func183 (by kernel_rfl) rfl #[.string a1] rfl bkA ?_; (with_reducible refine (reredosref01_low.calls a1 t212 _ A25.out).mono ?_); rintro e w' ⟨rfl, ⟨nd, rfl⟩⟩; refine ⟨_, rfl, ?_⟩) | ((with_reducible refine gate_callee (f := 214) rfl ?_); refine goesL_ (some 39) rfl rfl Tryz.func214 (by kernel_rfl) rfl #[.string t211, .bool t212] rfl bkA ?_; (with_reducible refine (reredosref01_signed.calls k t211 t212 t213 _ A26.out).mono ?_); rintro e w' ⟨rfl, ⟨nd, rfl⟩⟩; refine ⟨_, rfl, ?_⟩))
      go_ret
      exact ⟨bkE, bkB⟩
/-! ### reredosref01_Cmp: function 139 -/
def reredosref01_Cmp.j0 : Nat → ByteArray → ByteArray → Bool → Option (Int)
  | 0, _, _, _ => none
  | k + 1, x0, x1, x12 => if x12 = true then (some 0) else ((reredosref01_turned.f k x1).bind fun t216 => ((reredosref01_sum.f k x0 t216).bind fun t217 => ((reredosref01_bounded.f k t217).bind fun t218 => ((reredosref01_Sign.f k t218).bind fun t219 => (some t219)))))
def reredosref01_Cmp.f (k : Nat) (a0 : ByteArray) (a1 : ByteArray) : Option (Int) := (reredosref01_May.f k a0).bind fun t214 => (if t214 = true then ((reredosref01_May.f k a1).bind fun t215 => (reredosref01_Cmp.j0 k a0 a1 (!t215))) else (reredosref01_Cmp.j0 k a0 a1 true))
set_option maxHeartbeats 8000000 in
set_option maxRecDepth 100000 in
theorem reredosref01_Cmp.calls (k : Nat) (a0 : ByteArray) (a1 : ByteArray) (r : Int) (w : World) (h : reredosref01_Cmp.f k a0 a1 = some r) :
    Calls Tryz.prog 139 #[.string a0, .string a1] w fun e w' => e = .returned (.int .i64 r) ∧ Below w.heap.size w w' := by
  have HB := Aside0.mk (Below.refl w.heap.size w)
  have H : ((reredosref01_May.f k a0).bind fun t214 => (if t214 = true then ((reredosref01_May.f k a1).bind fun t215 => (reredosref01_Cmp.j0 k a0 a1 (!t215))) else (reredosref01_Cmp.j0 k a0 a1 true))) = some r := h
  clear h
  have HC3 := Aside0.mk H
  clear H
  go_enter Tryz.func139, Tryz.ntmps139
  go_upto_region 1 with (fail)
  go_cut [12] (fun v12 wc => ∃ (kq : Nat) (x12_2 : Bool), v12 = .bool x12_2 ∧ Aside0 (reredosref01_Cmp.j0 kq a0 a1 x12_2 = some r) ∧ Aside0 (kq ≤ k) ∧ Aside0 (Below w.heap.size w wc))
  case first =>
    have H := HC3.out
    clear HC3
    refine bnd H ?_; clear H; intro t214 A4 H
    go_wp2_with (first | ((with_reducible refine gate_callee (f := 118) rfl ?_); refine goesC Tryz.func118 (some 6) (reredosref01_May.calls _ _ _ _ A4.out) ?_; rintro e w' ⟨rfl, ⟨nd, rfl⟩⟩; refine ⟨_, rfl, ?_⟩; refine halt ?_))
    refine ⟨?_⟩
    refine iteB H ?_ ?_ <;> clear H <;> rintro rfl H
    · refine bnd H ?_; clear H; intro t215 A6 H
      go_wp2_with (first | (go_at_call 118; (with_reducible refine (reredosref01_May.calls k a1 t215 _ A6.out).mono ?_); rintro e w' ⟨rfl, ⟨nd, rfl⟩⟩; refine halt ?_))
      refine ⟨?_⟩
      have H' := Aside0.mk H
      clear H
      go_wp2
      go_meet
      case rel => exact ⟨_, (!t215), bkF, H', ⟨by first | omega | exact Nat.le_refl _⟩, ⟨bkB⟩⟩
    · have H' := Aside0.mk H
      clear H
      go_wp2
      go_meet
      case rel => exact ⟨_, (true), bkF, H', ⟨by first | omega | exact Nat.le_refl _⟩, ⟨bkB⟩⟩
  case rest =>
    clear HC3
    try clear c1
    try clear p2
    try clear c5
    obtain ⟨kq, x12_2, rfl, HA, HJ2, HB⟩ := hcut
    cases kq with
    | zero => exact absurd HA.out (by simp [reredosref01_Cmp.j0])
    | succ kj2 =>
      have H := HA.out
      clear HA
      simp only [reredosref01_Cmp.j0] at H
      refine iteB H ?_ ?_ <;> clear H <;> rintro rfl H
      · obtain rfl := Option.some.inj H
        go_wp2
        go_ret
        exact ⟨bkE, bkB⟩
      · refine bnd H ?_; clear H; intro t216 A8 H
        go_wp2_with (first | ((with_reducible refine gate_callee (f := 188) rfl ?_); refine goesC (args := #[.string a1]) Tryz.func188 (some 15) (reredosref01_turned.calls kj2 a1 t216 _ A8.out) ?_; rintro e w' ⟨rfl, ⟨nd, rfl⟩⟩; refine ⟨_, rfl, ?_⟩; refine halt ?_))
        refine ⟨?_⟩
        refine bnd H ?_; clear H; intro t217 A9 H
        go_wp2_with (first | ((with_reducible refine gate_callee (f := 187) rfl ?_); refine goesB w Tryz.func187 (some 16) (reredosref01_sum.calls kj2 a0 t216 t217 _ A9.out) bkB ?_; clear HB; intro w12 HB; refine halt ?_))
        refine ⟨?_⟩
        refine bnd H ?_; clear H; intro t218 A10 H
        go_wp2_with (first | ((with_reducible refine gate_callee (f := 186) rfl ?_); refine goesC (args := #[.string t217]) Tryz.func186 (some 17) (reredosref01_bounded.calls kj2 t217 t218 _ A10.out) ?_; rintro e w' ⟨rfl, ⟨nd, rfl⟩⟩; refine ⟨_, rfl, ?_⟩; refine halt ?_))
        refine ⟨?_⟩
        refine bnd H ?_; clear H; intro t219 A11 H
        go_wp2_with (first | ((with_reducible refine gate_callee (f := 151) rfl ?_); refine goesC (args := #[.string t218]) Tryz.func151 (some 18) (reredosref01_Sign.calls kj2 t218 t219 _ A11.out) ?_; rintro e w' ⟨rfl, ⟨nd, rfl⟩⟩; refine ⟨_, rfl, ?_⟩; refine halt ?_))
        refine ⟨?_⟩
        obtain rfl := Option.some.inj H
        go_wp2
        go_ret
        exact ⟨bkE, bkB⟩
end Go.Proofs.YtcpaajecppplhaaGreatDoor.K
end
