/- What the law leans on, part 34: declarations of several texts of ours, in their order. -/
import Derived.Test.YtcpaajecppplhaaGreatDoorXN32
section
namespace Go.Proofs.YtcpaajecppplhaaGreatDoor.SC
open Go.RowKit Go.Proofs.YtcpaajecppplhaaGreatDoorW.PrintWords Go.Proofs.YtcpaajecppplhaaGreatDoorW.PrintLast Go.Proofs.YtcpaajecppplhaaGreatDoorW.PrintMore Go.Proofs.YtcpaajecppplhaaGreatDoor.B Go.Proofs.YtcpaajecppplhaaGreatDoor.K Go.Proofs.YtcpaajecppplhaaGreatDoor.L Go.Proofs.YtcpaajecppplhaaGreatDoor.M
attribute [local go_sem] max2_int min2_int max_two min_two max_three min_three max_four min_four
set_option linter.unusedVariables false
set_option linter.unusedSimpArgs false
/-! ### scalar_pick: function 99 -/
def scalar_pick.f (a0 : Bool) (a1 : ByteArray) (a2 : ByteArray) : Option (ByteArray × Int) := if a0 = true then (some (a1, 0)) else (some (a2, 0))
set_option maxHeartbeats 8000000 in
set_option maxRecDepth 100000 in
theorem scalar_pick.calls (a0 : Bool) (a1 : ByteArray) (a2 : ByteArray) (r1 : ByteArray) (r2 : Int) (w : World) (h : scalar_pick.f a0 a1 a2 = some (r1, r2)) :
    Calls Tryz.prog 99 #[.bool a0, .string a1, .string a2] w fun e w' => e = .returned (.tuple #[.string r1, .int .i64 r2]) ∧ Drawn0 w w' := by
  have H : (if a0 = true then (some (a1, 0)) else (some (a2, 0))) = some (r1, r2) := h
  clear h
  refine iteB H ?_ ?_ <;> clear H <;> rintro rfl H
  · simp only [Option.some.injEq, Prod.mk.injEq] at H
    obtain ⟨rfl, rfl⟩ := H
    go_enter Tryz.func99, Tryz.ntmps99
    go_wp2
    go_ret2
    exact ⟨bkF, bkD⟩
  · simp only [Option.some.injEq, Prod.mk.injEq] at H
    obtain ⟨rfl, rfl⟩ := H
    go_enter Tryz.func99, Tryz.ntmps99
    go_wp2
    go_ret2
    exact ⟨bkF, bkD⟩
/-! ### scalar_Dyad_1: function 98 -/
def scalar_Dyad_1.f (k : Nat) (a0 : ByteArray) (a1 : ByteArray) : Option (ByteArray × Int) := (L.num_Cmp.f k a0 a1).bind fun t101 => ((scalar_pick.f (decide (t101 ≤ 0)) a0 a1).bind fun bt102 => (some (bt102.1, bt102.2)))
set_option maxHeartbeats 8000000 in
set_option maxRecDepth 100000 in
theorem scalar_Dyad_1.calls (k : Nat) (a0 : ByteArray) (a1 : ByteArray) (r1 : ByteArray) (r2 : Int) (w : World) (h : scalar_Dyad_1.f k a0 a1 = some (r1, r2)) :
    Calls Tryz.prog 98 #[.string a0, .string a1] w fun e w' => e = .returned (.tuple #[.string r1, .int .i64 r2]) ∧ Below w.heap.size w w' := by
  have HB := Aside0.mk (Below.refl w.heap.size w)
  have H : ((L.num_Cmp.f k a0 a1).bind fun t101 => ((scalar_pick.f (decide (t101 ≤ 0)) a0 a1).bind fun bt102 => (some (bt102.1, bt102.2)))) = some (r1, r2) := h
  clear h
  refine bnd H ?_; clear H; intro t101 A3 H
  refine bnd2 H ?_; clear H; intro t102 t103 A4 H; try dsimp only at H
  simp only [Option.some.injEq, Prod.mk.injEq] at H
  obtain ⟨rfl, rfl⟩ := H
  go_enter Tryz.func98, Tryz.ntmps98
  go_wp2_with (first | ((with_reducible refine gate_callee (f := 100) rfl ?_); refine goesL_ (some 8) rfl rfl Tryz.func100 (by kernel_rfl) rfl #[.string a0, .string a1] rfl bkA ?_; (with_reducible refine (L.num_Cmp.calls k a0 a1 t101 _ A3.out).mono ?_); rintro e w5 ⟨rfl, hb⟩; refine ⟨_, rfl, ?_⟩; replace HB := kS HB hb; (try clear hb); (try clear hb2); (try clear hk); (try clear hi)) | ((with_reducible refine gate_callee (f := 99) rfl ?_); refine goesL_ (some 12) rfl rfl Tryz.func99 (by kernel_rfl) rfl #[.bool (decide (t101 ≤ 0)), .string a0, .string a1] rfl bkA ?_; (with_reducible refine (scalar_pick.calls (decide (t101 ≤ 0)) a0 a1 t102 t103 _ A4.out).mono ?_); rintro e w' ⟨rfl, ⟨nd, rfl⟩⟩; refine ⟨_, rfl, ?_⟩))
  go_ret2
  exact ⟨bkE, bkB⟩
/-! ### scalar_Dyad_2: function 101 -/
def scalar_Dyad_2.f (k : Nat) (a0 : ByteArray) (a1 : ByteArray) : Option (ByteArray × Int) := (L.num_Cmp.f k a0 a1).bind fun t104 => ((scalar_pick.f (decide (t104 ≥ 0)) a0 a1).bind fun bt105 => (some (bt105.1, bt105.2)))
set_option maxHeartbeats 8000000 in
set_option maxRecDepth 100000 in
theorem scalar_Dyad_2.calls (k : Nat) (a0 : ByteArray) (a1 : ByteArray) (r1 : ByteArray) (r2 : Int) (w : World) (h : scalar_Dyad_2.f k a0 a1 = some (r1, r2)) :
    Calls Tryz.prog 101 #[.string a0, .string a1] w fun e w' => e = .returned (.tuple #[.string r1, .int .i64 r2]) ∧ Below w.heap.size w w' := by
  have HB := Aside0.mk (Below.refl w.heap.size w)
  have H : ((L.num_Cmp.f k a0 a1).bind fun t104 => ((scalar_pick.f (decide (t104 ≥ 0)) a0 a1).bind fun bt105 => (some (bt105.1, bt105.2)))) = some (r1, r2) := h
  clear h
  refine bnd H ?_; clear H; intro t104 A3 H
  refine bnd2 H ?_; clear H; intro t105 t106 A4 H; try dsimp only at H
  simp only [Option.some.injEq, Prod.mk.injEq] at H
  obtain ⟨rfl, rfl⟩ := H
  go_enter Tryz.func101, Tryz.ntmps101
  go_wp2_with (first | ((with_reducible refine gate_callee (f := 100) rfl ?_); refine goesL_ (some 8) rfl rfl Tryz.func100 (by kernel_rfl) rfl #[.string a0, .string a1] rfl bkA ?_; (with_reducible refine (L.num_Cmp.calls k a0 a1 t104 _ A3.out).mono ?_); rintro e w5 ⟨rfl, hb⟩; refine ⟨_, rfl, ?_⟩; replace HB := kS HB hb; (try clear hb); (try clear hb2); (try clear hk); (try clear hi)) | ((with_reducible refine gate_callee (f := 99) rfl ?_); refine goesL_ (some 12) rfl rfl Tryz.func99 (by kernel_rfl) rfl #[.bool (decide (t104 ≥ 0)), .string a0, .string a1] rfl bkA ?_; (with_reducible refine (scalar_pick.calls (decide (t104 ≥ 0)) a0 a1 t105 t106 _ A4.out).mono ?_); rintro e w' ⟨rfl, ⟨nd, rfl⟩⟩; refine ⟨_, rfl, ?_⟩))
  go_ret2
  exact ⟨bkE, bkB⟩
/-! ### scalar_told: function 103 -/
def scalar_told.f (a0 : Bool) : Option (ByteArray) := if a0 = true then (some (⟨#[49]⟩ : ByteArray)) else (some (⟨#[48]⟩ : ByteArray))
set_option maxHeartbeats 8000000 in
set_option maxRecDepth 100000 in
theorem scalar_told.calls (a0 : Bool) (r : ByteArray) (w : World) (h : scalar_told.f a0 = some r) :
    Calls Tryz.prog 103 #[.bool a0] w fun e w' => e = .returned (.string r) ∧ Drawn0 w w' := by
  have H : (if a0 = true then (some (⟨#[49]⟩ : ByteArray)) else (some (⟨#[48]⟩ : ByteArray))) = some r := h
  clear h
  refine iteB H ?_ ?_ <;> clear H <;> rintro rfl H
  · obtain rfl := Option.some.inj H
    go_enter Tryz.func103, Tryz.ntmps103
    go_wp2
    go_ret
    exact ⟨bkF, bkD⟩
  · obtain rfl := Option.some.inj H
    go_enter Tryz.func103, Tryz.ntmps103
    go_wp2
    go_ret
    exact ⟨bkF, bkD⟩
/-! ### scalar_Dyad_3: function 102 -/
def scalar_Dyad_3.f (k : Nat) (a0 : ByteArray) (a1 : ByteArray) : Option (ByteArray × Int) := (L.num_Cmp.f k a0 a1).bind fun t107 => ((scalar_told.f (decide (t107 < 0))).bind fun t108 => (some (t108, 0)))
set_option maxHeartbeats 8000000 in
set_option maxRecDepth 100000 in
theorem scalar_Dyad_3.calls (k : Nat) (a0 : ByteArray) (a1 : ByteArray) (r1 : ByteArray) (r2 : Int) (w : World) (h : scalar_Dyad_3.f k a0 a1 = some (r1, r2)) :
    Calls Tryz.prog 102 #[.string a0, .string a1] w fun e w' => e = .returned (.tuple #[.string r1, .int .i64 r2]) ∧ Below w.heap.size w w' := by
  have HB := Aside0.mk (Below.refl w.heap.size w)
  have H : ((L.num_Cmp.f k a0 a1).bind fun t107 => ((scalar_told.f (decide (t107 < 0))).bind fun t108 => (some (t108, 0)))) = some (r1, r2) := h
  clear h
  refine bnd H ?_; clear H; intro t107 A3 H
  refine bnd H ?_; clear H; intro t108 A4 H
  simp only [Option.some.injEq, Prod.mk.injEq] at H
  obtain ⟨rfl, rfl⟩ := H
  go_enter Tryz.func102, Tryz.ntmps102
  go_wp2_with (first | ((with_reducible refine gate_callee (f := 100) rfl ?_); refine goesL_ (some 8) rfl rfl Tryz.func100 (by kernel_rfl) rfl #[.string a0, .string a1] rfl bkA ?_; (with_reducible refine (L.num_Cmp.calls k a0 a1 t107 _ A3.out).mono ?_); rintro e w5 ⟨rfl, hb⟩; refine ⟨_, rfl, ?_⟩; replace HB := kS HB hb; (try clear hb); (try clear hb2); (try clear hk); (try clear hi)) | ((with_reducible refine gate_callee (f := 103) rfl ?_); refine goesL_ (some 10) rfl rfl Tryz.func103 (by kernel_rfl) rfl #[.bool (decide (t107 < 0))] rfl bkA ?_; (with_reducible refine (scalar_told.calls (decide (t107 < 0)) t108 _ A4.out).mono ?_); rintro e w' ⟨rfl, ⟨nd, rfl⟩⟩; refine ⟨_, rfl, ?_⟩))
  go_ret2
  exact ⟨bkE, bkB⟩
/-! ### scalar_Dyad_4: function 104 -/
def scalar_Dyad_4.f (k : Nat) (a0 : ByteArray) (a1 : ByteArray) : Option (ByteArray × Int) := (L.num_Cmp.f k a0 a1).bind fun t109 => ((scalar_told.f (decide (t109 > 0))).bind fun t110 => (some (t110, 0)))
set_option maxHeartbeats 8000000 in
set_option maxRecDepth 100000 in
theorem scalar_Dyad_4.calls (k : Nat) (a0 : ByteArray) (a1 : ByteArray) (r1 : ByteArray) (r2 : Int) (w : World) (h : scalar_Dyad_4.f k a0 a1 = some (r1, r2)) :
    Calls Tryz.prog 104 #[.string a0, .string a1] w fun e w' => e = .returned (.tuple #[.string r1, .int .i64 r2]) ∧ Below w.heap.size w w' := by
  have HB := Aside0.mk (Below.refl w.heap.size w)
  have H : ((L.num_Cmp.f k a0 a1).bind fun t109 => ((scalar_told.f (decide (t109 > 0))).bind fun t110 => (some (t110, 0)))) = some (r1, r2) := h
  clear h
  refine bnd H ?_; clear H; intro t109 A3 H
  refine bnd H ?_; clear H; intro t110 A4 H
  simp only [Option.some.injEq, Prod.mk.injEq] at H
  obtain ⟨rfl, rfl⟩ := H
  go_enter Tryz.func104, Tryz.ntmps104
  go_wp2_with (first | ((with_reducible refine gate_callee (f := 100) rfl ?_); refine goesL_ (some 8) rfl rfl Tryz.func100 (by kernel_rfl) rfl #[.string a0, .string a1] rfl bkA ?_; (with_reducible refine (L.num_Cmp.calls k a0 a1 t109 _ A3.out).mono ?_); rintro e w5 ⟨rfl, hb⟩; refine ⟨_, rfl, ?_⟩; replace HB := kS HB hb; (try clear hb); (try clear hb2); (try clear hk); (try clear hi)) | ((with_reducible refine gate_callee (f := 103) rfl ?_); refine goesL_ (some 10) rfl rfl Tryz.func103 (by kernel_rfl) rfl #[.bool (decide (t109 > 0))] rfl bkA ?_; (with_reducible refine (scalar_told.calls (decide (t109 > 0)) t110 _ A4.out).mono ?_); rintro e w' ⟨rfl, ⟨nd, rfl⟩⟩; refine ⟨_, rfl, ?_⟩))
  go_ret2
  exact ⟨bkE, bkB⟩
/-! ### scalar_Dyad_5: function 105 -/
def scalar_Dyad_5.f (a0 : ByteArray) (a1 : ByteArray) : Option (ByteArray × Int) := (scalar_told.f (a0.toList == a1.toList)).bind fun t111 => (some (t111, 0))
set_option maxHeartbeats 8000000 in
set_option maxRecDepth 100000 in
theorem scalar_Dyad_5.calls (a0 : ByteArray) (a1 : ByteArray) (r1 : ByteArray) (r2 : Int) (w : World) (h : scalar_Dyad_5.f a0 a1 = some (r1, r2)) :
    Calls Tryz.prog 105 #[.string a0, .string a1] w fun e w' => e = .returned (.tuple #[.string r1, .int .i64 r2]) ∧ Drawn0 w w' := by
  have H : ((scalar_told.f (a0.toList == a1.toList)).bind fun t111 => (some (t111, 0))) = some (r1, r2) := h
  clear h
  refine bnd H ?_; clear H; intro t111 A3 H
  simp only [Option.some.injEq, Prod.mk.injEq] at H
  obtain ⟨rfl, rfl⟩ := H
  go_enter Tryz.func105, Tryz.ntmps105
  go_wp2_with (first | ((with_reducible refine gate_callee (f := 103) rfl ?_); refine goesL_ (some 9) rfl rfl Tryz.func103 (by kernel_rfl) rfl #[.bool (a0.toList == a1.toList)] rfl bkA ?_; (with_reducible refine (scalar_told.calls (a0.toList == a1.toList) t111 _ A3.out).mono ?_); rintro e w' ⟨rfl, ⟨nd, rfl⟩⟩; refine ⟨_, rfl, ?_⟩))
  go_ret2
  exact ⟨bkF, bkD⟩
/-! ### scalar_Dyad_6: function 106 -/
def scalar_Dyad_6.f (a0 : ByteArray) (a1 : ByteArray) : Option (ByteArray × Int) := (scalar_told.f (a0.toList != a1.toList)).bind fun t112 => (some (t112, 0))
set_option maxHeartbeats 8000000 in
set_option maxRecDepth 100000 in
theorem scalar_Dyad_6.calls (a0 : ByteArray) (a1 : ByteArray) (r1 : ByteArray) (r2 : Int) (w : World) (h : scalar_Dyad_6.f a0 a1 = some (r1, r2)) :
    Calls Tryz.prog 106 #[.string a0, .string a1] w fun e w' => e = .returned (.tuple #[.string r1, .int .i64 r2]) ∧ Drawn0 w w' := by
  have H : ((scalar_told.f (a0.toList != a1.toList)).bind fun t112 => (some (t112, 0))) = some (r1, r2) := h
  clear h
  refine bnd H ?_; clear H; intro t112 A3 H
  simp only [Option.some.injEq, Prod.mk.injEq] at H
  obtain ⟨rfl, rfl⟩ := H
  go_enter Tryz.func106, Tryz.ntmps106
  go_wp2_with (first | ((with_reducible refine gate_callee (f := 103) rfl ?_); refine goesL_ (some 9) rfl rfl Tryz.func103 (by kernel_rfl) rfl #[.bool (a0.toList != a1.toList)] rfl bkA ?_; (with_reducible refine (scalar_told.calls (a0.toList != a1.toList) t112 _ A3.out).mono ?_); rintro e w' ⟨rfl, ⟨nd, rfl⟩⟩; refine ⟨_, rfl, ?_⟩))
  go_ret2
  exact ⟨bkF, bkD⟩
/-! ### scalar_Dyads: function 75 -/
def scalar_Dyads.f  : Option (ByteArray) := some (⟨#[43, 45, 42, 37, 33, 38, 124, 60, 62, 61, 126]⟩ : ByteArray)
set_option maxHeartbeats 8000000 in
set_option maxRecDepth 100000 in
theorem scalar_Dyads.calls  (r : ByteArray) (w : World) (h : scalar_Dyads.f  = some r) :
    Calls Tryz.prog 75 #[] w fun e w' => e = .returned (.string r) ∧ Drawn0 w w' := by
  have H : (some (⟨#[43, 45, 42, 37, 33, 38, 124, 60, 62, 61, 126]⟩ : ByteArray)) = some r := h
  clear h
  obtain rfl := Option.some.inj H
  go_enter Tryz.func75, Tryz.ntmps75
  go_wp2
  go_ret
  exact ⟨bkF, bkD⟩
end Go.Proofs.YtcpaajecppplhaaGreatDoor.SC
end
