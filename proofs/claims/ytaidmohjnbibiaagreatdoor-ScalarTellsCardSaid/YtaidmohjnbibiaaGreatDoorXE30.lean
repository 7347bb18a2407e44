/- What the law leans on, part 31: declarations of several texts of ours, in their order. -/
import Derived.Test.YtaidmohjnbibiaaGreatDoorXE29
section
namespace Go.Proofs.YtaidmohjnbibiaaGreatDoor.SC
open Go.RowKit Go.Proofs.YtaidmohjnbibiaaGreatDoorW.PrintWords Go.Proofs.YtaidmohjnbibiaaGreatDoorW.PrintLast Go.Proofs.YtaidmohjnbibiaaGreatDoorW.PrintMore Go.Proofs.YtaidmohjnbibiaaGreatDoor.B Go.Proofs.YtaidmohjnbibiaaGreatDoor.K Go.Proofs.YtaidmohjnbibiaaGreatDoor.L Go.Proofs.YtaidmohjnbibiaaGreatDoor.M
attribute [local go_sem] max2_int min2_int max_two min_two max_three min_three max_four min_four
set_option linter.unusedVariables false
set_option linter.unusedSimpArgs false
/-! ### reredosref12_Dyad: function 17 -/
mutual
def reredosref12_Dyad.j0 : Nat → ByteArray → ByteArray → ByteArray → Bool → Option (ByteArray × Int)
  | 0, _, _, _, _ => none
  | k + 1, x0, x1, x2, x16 => if x16 = true then (some ((⟨#[]⟩ : ByteArray), 1)) else ((Go.Proofs.YtaidmohjnbibiaaGreatDoor.K.reredosref01_Cmp.f k x1 x2).bind fun t118 => (if x0.toList = ([43] : List UInt8) then ((Go.Proofs.YtaidmohjnbibiaaGreatDoor.K.reredosref01_Add.f k x1 x2).bind fun bt119 => (some (bt119.1, bt119.2))) else (if x0.toList = ([45] : List UInt8) then ((Go.Proofs.YtaidmohjnbibiaaGreatDoor.K.reredosref01_Sub.f k x1 x2).bind fun bt121 => (some (bt121.1, bt121.2))) else (if x0.toList = ([42] : List UInt8) then ((Go.Proofs.YtaidmohjnbibiaaGreatDoor.K.reredosref01_Mul.f k x1 x2).bind fun bt123 => (some (bt123.1, bt123.2))) else (if x0.toList = ([37] : List UInt8) then ((Go.Proofs.YtaidmohjnbibiaaGreatDoor.K.reredosref01_Div.f k x1 x2).bind fun bt125 => (some (bt125.1, bt125.2))) else (if x0.toList = ([33] : List UInt8) then ((Go.Proofs.YtaidmohjnbibiaaGreatDoor.K.reredosref01_Mod.f k x1 x2).bind fun bt127 => (some (bt127.1, bt127.2))) else (if x0.toList = ([60] : List UInt8) then ((reredosref12_bit.f (decide (t118 < 0))).bind fun t129 => (some (t129, 0))) else (if x0.toList = ([62] : List UInt8) then ((reredosref12_bit.f (decide (t118 > 0))).bind fun t130 => (some (t130, 0))) else (if x0.toList = ([61] : List UInt8) then ((reredosref12_bit.f (t118 == 0)).bind fun t131 => (some (t131, 0))) else (if x0.toList = ([126] : List UInt8) then ((reredosref12_bit.f (t118 != 0)).bind fun t132 => (some (t132, 0))) else (if x0.toList = ([38] : List UInt8) then (if t118 < 0 then (reredosref12_Dyad.j1 k x0 x1 x2 true) else (if x0.toList = ([124] : List UInt8) then (reredosref12_Dyad.j1 k x0 x1 x2 (decide (t118 > 0))) else (reredosref12_Dyad.j1 k x0 x1 x2 false))) else (if x0.toList = ([124] : List UInt8) then (reredosref12_Dyad.j1 k x0 x1 x2 (decide (t118 > 0))) else (reredosref12_Dyad.j1 k x0 x1 x2 false)))))))))))))
def reredosref12_Dyad.j1 : Nat → ByteArray → ByteArray → ByteArray → Bool → Option (ByteArray × Int)
  | 0, _, _, _, _ => none
  | k + 1, x0, x1, x2, x89 => if x89 = true then (some (x1, 0)) else (if x0.toList = ([38] : List UInt8) then (some (x2, 0)) else (if x0.toList = ([124] : List UInt8) then (some (x2, 0)) else (some ((⟨#[]⟩ : ByteArray), 1))))
end
def reredosref12_Dyad.f (k : Nat) (a0 : ByteArray) (a1 : ByteArray) (a2 : ByteArray) : Option (ByteArray × Int) := (Go.Proofs.YtaidmohjnbibiaaGreatDoor.K.reredosref01_May.f k a1).bind fun t116 => (if t116 = true then ((Go.Proofs.YtaidmohjnbibiaaGreatDoor.K.reredosref01_May.f k a2).bind fun t117 => (reredosref12_Dyad.j0 k a0 a1 a2 (!t117))) else (reredosref12_Dyad.j0 k a0 a1 a2 true))
set_option maxHeartbeats 8000000 in
set_option maxRecDepth 100000 in
theorem reredosref12_Dyad.calls (k : Nat) (a0 : ByteArray) (a1 : ByteArray) (a2 : ByteArray) (r1 : ByteArray) (r2 : Int) (w : World) (h : reredosref12_Dyad.f k a0 a1 a2 = some (r1, r2)) :
    Calls Tryz.prog 17 #[.string a0, .string a1, .string a2] w fun e w' => e = .returned (.tuple #[.string r1, .int .i64 r2]) ∧ Below w.heap.size w w' := by
  have HB := Aside0.mk (Below.refl w.heap.size w)
  have H : ((Go.Proofs.YtaidmohjnbibiaaGreatDoor.K.reredosref01_May.f k a1).bind fun t116 => (if t116 = true then ((Go.Proofs.YtaidmohjnbibiaaGreatDoor.K.reredosref01_May.f k a2).bind fun t117 => (reredosref12_Dyad.j0 k a0 a1 a2 (!t117))) else (reredosref12_Dyad.j0 k a0 a1 a2 true))) = some (r1, r2) := h
  clear h
  have HC4 := Aside0.mk H
  clear H
  go_enter Tryz.func17, Tryz.ntmps17
  go_upto_region 1 with (fail)
  go_cut [16] (fun v16 wc => ∃ (kq : Nat) (x16_3 : Bool), v16 = .bool x16_3 ∧ Aside0 (reredosref12_Dyad.j0 kq a0 a1 a2 x16_3 = some (r1, r2)) ∧ Aside0 (kq ≤ k) ∧ Aside0 (Below w.heap.size w wc))
  case first =>
    have H := HC4.out
    clear HC4
    obtain ⟨t116, A50, H⟩ := Option.bind_eq_some_iff.mp H
    try dsimp only at H
    have A5 := Aside0.mk A50
    clear A50
    by_cases c6 : t116 = true
    · subst c6
      rw [if_pos rfl] at H
      obtain ⟨t117, A70, H⟩ := Option.bind_eq_some_iff.mp H
      try dsimp only at H
      have A7 := Aside0.mk A70
      clear A70
      have H' := Aside0.mk H
      clear H
      go_wp2_with (first | ((with_reducible refine gate_callee (f := 46) rfl ?_); refine goesL_ (some 10) rfl rfl Tryz.func46 (by kernel_rfl) rfl #[.string a1] rfl bkA ?_; (with_reducible refine (Go.Proofs.YtaidmohjnbibiaaGreatDoor.K.reredosref01_May.calls k a1 true _ A5.out).mono ?_); rintro e w' ⟨rfl, ⟨nd, rfl⟩⟩; refine ⟨_, rfl, ?_⟩) | (go_at_call 46; (with_reducible refine (Go.Proofs.YtaidmohjnbibiaaGreatDoor.K.reredosref01_May.calls k a2 t117 _ A7.out).mono ?_); rintro e w' ⟨rfl, ⟨nd, rfl⟩⟩))
      go_meet
      case rel => exact ⟨_, (!t117), bkF, H', ⟨by first | omega | exact Nat.le_refl _⟩, ⟨bkB⟩⟩
    · replace c6 := Bool.eq_false_iff.mpr c6
      subst c6
      rw [if_neg Bool.false_ne_true] at H
      have H' := Aside0.mk H
      clear H
      go_wp2_with (first | ((with_reducible refine gate_callee (f := 46) rfl ?_); refine goesL_ (some 10) rfl rfl Tryz.func46 (by kernel_rfl) rfl #[.string a1] rfl bkA ?_; (with_reducible refine (Go.Proofs.YtaidmohjnbibiaaGreatDoor.K.reredosref01_May.calls k a1 false _ A5.out).mono ?_); rintro e w' ⟨rfl, ⟨nd, rfl⟩⟩; refine ⟨_, rfl, ?_⟩))
      go_meet
      case rel => exact ⟨_, (true), bkF, H', ⟨by first | omega | exact Nat.le_refl _⟩, ⟨bkB⟩⟩
  case rest =>
    clear HC4
    try clear c1
    try clear p2
    try clear c4
    try clear c6
    obtain ⟨kq, x16_3, rfl, HA, HJ3, HB⟩ := hcut
    cases kq with
    | zero => exact absurd HA.out (by simp [reredosref12_Dyad.j0])
    | succ kj3 =>
      have H := HA.out
      clear HA
      simp only [reredosref12_Dyad.j0] at H
      by_cases c8 : x16_3 = true
      · subst c8
        rw [if_pos rfl] at H
        simp only [Option.some.injEq, Prod.mk.injEq] at H
        obtain ⟨rfl, rfl⟩ := H
        go_wp2
        go_ret2
        exact ⟨bkE, bkB⟩
      · replace c8 := Bool.eq_false_iff.mpr c8
        subst c8
        rw [if_neg Bool.false_ne_true] at H
        obtain ⟨t118, A90, H⟩ := Option.bind_eq_some_iff.mp H
        try dsimp only at H
        have A9 := Aside0.mk A90
        clear A90
        by_cases c10 : a0.toList = ([43] : List UInt8)
        · rw [if_pos c10] at H
          have c10b0 : (a0.toList == ([43] : List UInt8)) = true := beq_iff_eq.mpr c10
          have c10b1 : (a0.toList != ([43] : List UInt8)) = false := bne_eq_false_iff_eq.mpr c10
          clear c10
          obtain ⟨⟨t119, t120⟩, A110, H⟩ := Option.bind_eq_some_iff.mp H
          try dsimp only at H
          have A11 := Aside0.mk A110
          clear A110
          simp only [Option.some.injEq, Prod.mk.injEq] at H
          obtain ⟨rfl, rfl⟩ := H
          go_wp2_with (first | ((with_reducible refine gate_callee (f := 47) rfl ?_); refine goesL_ (some 19) rfl rfl Tryz.func47 (by kernel_rfl) rfl #[.string a1, .string a2] rfl bkA ?_; (with_reducible refine (Go.Proofs.YtaidmohjnbibiaaGreatDoor.K.reredosref01_Cmp.calls kj3 a1 a2 t118 _ A9.out).mono ?_); rintro e w12 ⟨rfl, hb⟩; refine ⟨_, rfl, ?_⟩; replace HB := bkS hb; clear hb; (try clear hb2); (try clear hk); (try clear hi)) | ((with_reducible refine gate_callee (f := 48) rfl ?_); refine goesL_ (some 25) rfl rfl Tryz.func48 (by kernel_rfl) rfl #[.string a1, .string a2] rfl bkA ?_; (with_reducible refine (Go.Proofs.YtaidmohjnbibiaaGreatDoor.K.reredosref01_Add.calls kj3 a1 a2 t119 t120 _ A11.out).mono ?_); rintro e w13 ⟨rfl, hb⟩; refine ⟨_, rfl, ?_⟩; replace HB := bkS hb; clear hb; (try clear hb2); (try clear hk); (try clear hi)))
          go_ret2
          exact ⟨bkE, bkB⟩
        · rw [if_neg c10] at H
          have c10b0 : (a0.toList == ([43] : List UInt8)) = false := beq_eq_false_iff_ne.mpr c10
          have c10b1 : (a0.toList != ([43] : List UInt8)) = true := bne_iff_ne.mpr c10
          by_cases c14 : a0.toList = ([45] : List UInt8)
          · rw [if_pos c14] at H
            have c14b0 : (a0.toList == ([45] : List UInt8)) = true := beq_iff_eq.mpr c14
            have c14b1 : (a0.toList != ([45] : List UInt8)) = false := bne_eq_false_iff_eq.mpr c14
            clear c14
            obtain ⟨⟨t121, t122⟩, A150, H⟩ := Option.bind_eq_some_iff.mp H
            try dsimp only at H
            have A15 := Aside0.mk A150
            clear A150
            simp only [Option.some.injEq, Prod.mk.injEq] at H
            obtain ⟨rfl, rfl⟩ := H
            go_wp2_with (first | ((with_reducible refine gate_callee (f := 47) rfl ?_); refine goesL_ (some 19) rfl rfl Tryz.func47 (by kernel_rfl) rfl #[.string a1, .string a2] rfl bkA ?_; (with_reducible refine (Go.Proofs.YtaidmohjnbibiaaGreatDoor.K.reredosref01_Cmp.calls kj3 a1 a2 t118 _ A9.out).mono ?_); rintro e w16 ⟨rfl, hb⟩; refine ⟨_, rfl, ?_⟩; replace HB := bkS hb; clear hb; (try clear hb2); (try clear hk); (try clear hi)) | ((with_reducible refine gate_callee (f := 49) rfl ?_); refine goesL_ (some 32) rfl rfl Tryz.func49 (by kernel_rfl) rfl #[.string a1, .string a2] rfl bkA ?_; (with_reducible refine (Go.Proofs.YtaidmohjnbibiaaGreatDoor.K.reredosref01_Sub.calls kj3 a1 a2 t121 t122 _ A15.out).mono ?_); rintro e w17 ⟨rfl, hb⟩; refine ⟨_, rfl, ?_⟩; replace HB := bkS hb; clear hb; (try clear hb2); (try clear hk); (try clear hi)))
            go_ret2
            exact ⟨bkE, bkB⟩
          · rw [if_neg c14] at H
            have c14b0 : (a0.toList == ([45] : List UInt8)) = false := beq_eq_false_iff_ne.mpr c14
            have c14b1 : (a0.toList != ([45] : List UInt8)) = true := bne_iff_ne.mpr c14
            by_cases c18 : a0.toList = ([42] : List UInt8)
            · rw [if_pos c18] at H
              have c18b0 : (a0.toList == ([42] : List UInt8)) = true := beq_iff_eq.mpr c18
              have c18b1 : (a0.toList != ([42] : List UInt8)) = false := bne_eq_false_iff_eq.mpr c18
              clear c18
              obtain ⟨⟨t123, t124⟩, A190, H⟩ := Option.bind_eq_some_iff.mp H
              try dsimp only at H
              have A19 := Aside0.mk A190
              clear A190
              simp only [Option.some.injEq, Prod.mk.injEq] at H
              obtain ⟨rfl, rfl⟩ := H
              go_wp2_with (first | ((with_reducible refine gate_callee (f := 47) rfl ?_); refine goesL_ (some 19) rfl rfl Tryz.func47 (by kernel_rfl) rfl #[.string a1, .string a2] rfl bkA ?_; (with_reducible refine (Go.Proofs.YtaidmohjnbibiaaGreatDoor.K.reredosref01_Cmp.calls kj3 a1 a2 t118 _ A9.out).mono ?_); rintro e w20 ⟨rfl, hb⟩; refine ⟨_, rfl, ?_⟩; replace HB := bkS hb; clear hb; (try clear hb2); (try clear hk); (try clear hi)) | ((with_reducible refine gate_callee (f := 50) rfl ?_); refine goesL_ (some 39) rfl rfl Tryz.func50 (by kernel_rfl) rfl #[.string a1, .string a2] rfl bkA ?_; (with_reducible refine (Go.Proofs.YtaidmohjnbibiaaGreatDoor.K.reredosref01_Mul.calls kj3 a1 a2 t123 t124 _ A19.out).mono ?_); rintro e w21 ⟨rfl, hb⟩; refine ⟨_, rfl, ?_⟩; replace HB := bkS hb; clear hb; (try clear hb2); (try clear hk); (try clear hi)))
              go_ret2
              exact ⟨bkE, bkB⟩
            · rw [if_neg c18] at H
              have c18b0 : (a0.toList == ([42] : List UInt8)) = false := beq_eq_false_iff_ne.mpr c18
              have c18b1 : (a0.toList != ([42] : List UInt8)) = true := bne_iff_ne.mpr c18
              by_cases c22 : a0.toList = ([37] : List UInt8)
              · rw [if_pos c22] at H
                have c22b0 : (a0.toList == ([37] : List UInt8)) = true := beq_iff_eq.mpr c22
                have c22b1 : (a0.toList != ([37] : List UInt8)) = false := bne_eq_false_iff_eq.mpr c22
                clear c22
                obtain ⟨⟨t125, t126⟩, A230, H⟩ := Option.bind_eq_some_iff.mp H
                try dsimp only at H
                have A23 := Aside0.mk A230
                clear A230
                simp only [Option.some.injEq, Prod.mk.injEq] at H
                obtain ⟨rfl, rfl⟩ := H
                go_wp2_with (first | ((with_reducible refine gate_callee (f := 47) rfl ?_); refine goesL_ (some 19) rfl rfl Tryz.func47 (by kernel_rfl) rfl #[.string a1, .string a2] rfl bkA ?_; (with_reducible refine (Go.Proofs.YtaidmohjnbibiaaGreatDoor.K.reredosref01_Cmp.calls kj3 a1 a2 t118 _ A9.out).mono ?_); rintro e w24 ⟨rfl, hb⟩; refine ⟨_, rfl, ?_⟩; replace HB := bkS hb; clear hb; (try clear hb2); (try clear hk); (try clear hi)) | ((with_reducible refine gate_callee (f := 51) rfl ?_); refine goesL_ (some 46) rfl rfl Tryz.func51 (by kernel_rfl) rfl #[.string a1, .string a2] rfl bkA ?_; (with_reducible refine (Go.Proofs.YtaidmohjnbibiaaGreatDoor.K.reredosref01_Div.calls kj3 a1 a2 t125 t126 _ A23.out).mono ?_); rintro e w25 ⟨rfl, hb⟩; refine ⟨_, rfl, ?_⟩; replace HB := bkS hb; clear hb; (try clear hb2); (try clear hk); (try clear hi)))
                go_ret2
                exact ⟨bkE, bkB⟩
              · rw [if_neg c22] at H
                have c22b0 : (a0.toList == ([37] : List UInt8)) = false := beq_eq_false_iff_ne.mpr c22
                have c22b1 : (a0.toList != ([37] : List UInt8)) = true := bne_iff_ne.mpr c22
                by_cases c26 : a0.toList = ([33] : List UInt8)
                · rw [if_pos c26] at H
                  have c26b0 : (a0.toList == ([33] : List UInt8)) = true := beq_iff_eq.mpr c26
                  have c26b1 : (a0.toList != ([33] : List UInt8)) = false := bne_eq_false_iff_eq.mpr c26
                  clear c26
                  obtain ⟨⟨t127, t128⟩, A270, H⟩ := Option.bind_eq_some_iff.mp H
                  try dsimp only at H
                  have A27 := Aside0.mk A270
                  clear A270
                  simp only [Option.some.injEq, Prod.mk.injEq] at H
                  obtain ⟨rfl, rfl⟩ := H
                  go_wp2_with (first | ((with_reducible refine gate_callee (f := 47) rfl ?_); refine goesL_ (some 19) rfl rfl Tryz.func47 (by kernel_rfl) rfl #[.string a1, .string a2] rfl bkA ?_; (with_reducible refine (Go.Proofs.YtaidmohjnbibiaaGreatDoor.K.reredosref01_Cmp.calls kj3 a1 a2 t118 _ A9.out).mono ?_); rintro e w28 ⟨rfl, hb⟩; refine ⟨_, rfl, ?_⟩; replace HB := bkS hb; clear hb; (try clear hb2); (try clear hk); (try clear hi)) | ((with_reducible refine gate_callee (f := 52) rfl ?_); refine goesL_ (some 53) rfl rfl Tryz.func52 (by kernel_rfl) rfl #[.string a1, .string a2] rfl bkA ?_; (with_reducible refine (Go.Proofs.YtaidmohjnbibiaaGreatDoor.K.reredosref01_Mod.calls kj3 a1 a2 t127 t128 _ A27.out).mono ?_); rintro e w29 ⟨rfl, hb⟩; refine ⟨_, rfl, ?_⟩; replace HB := bkS hb; clear hb; (try clear hb2); (try clear hk); (try clear hi)))
                  go_ret2
                  exact ⟨bkE, bkB⟩
                · rw [if_neg c26] at H
                  have c26b0 : (a0.toList == ([33] : List UInt8)) = false := beq_eq_false_iff_ne.mpr c26
                  have c26b1 : (a0.toList != ([33] : List UInt8)) = true := bne_iff_ne.mpr c26
                  by_cases c30 : a0.toList = ([60] : List UInt8)
                  · rw [if_pos c30] at H
                    have c30b0 : (a0.toList == ([60] : List UInt8)) = true := beq_iff_eq.mpr c30
                    have c30b1 : (a0.toList != ([60] : List UInt8)) = false := bne_eq_false_iff_eq.mpr c30
                    clear c30
                    obtain ⟨t129, A310, H⟩ := Option.bind_eq_some_iff.mp H
                    try dsimp only at H
                    have A31 := Aside0.mk A310
                    clear A310
                    simp only [Option.some.injEq, Prod.mk.injEq] at H
                    obtain ⟨rfl, rfl⟩ := H
                    go_wp2_with (first | ((with_reducible refine gate_callee (f := 47) rfl ?_); refine goesL_ (some 19) rfl rfl Tryz.func47 (by kernel_rfl) rfl #[.string a1, .string a2] rfl bkA ?_; (with_reducible refine (Go.Proofs.YtaidmohjnbibiaaGreatDoor.K.reredosref01_Cmp.calls kj3 a1 a2 t118 _ A9.out).mono ?_); rintro e w32 ⟨rfl, hb⟩; refine ⟨_, rfl, ?_⟩; replace HB := bkS hb; clear hb; (try clear hb2); (try clear hk); (try clear hi)) | ((with_reducible refine gate_callee (f := 53) rfl ?_); refine goesL_ (some 60) rfl rfl Tryz.func53 (by kernel_rfl) rfl #[.bool (decide (t118 < 0))] rfl bkA ?_; (with_reducible refine (reredosref12_bit.calls (decide (t118 < 0)) t129 _ A31.out).mono ?_); rintro e w' ⟨rfl, ⟨nd, rfl⟩⟩; refine ⟨_, rfl, ?_⟩))
                    go_ret2
                    exact ⟨bkE, bkB⟩
                  · rw [if_neg c30] at H
                    have c30b0 : (a0.toList == ([60] : List UInt8)) = false := beq_eq_false_iff_ne.mpr c30
                    have c30b1 : (a0.toList != ([60] : List UInt8)) = true := bne_iff_ne.mpr c30
                    by_cases c33 : a0.toList = ([62] : List UInt8)
                    · rw [if_pos c33] at H
                      have c33b0 : (a0.toList == ([62] : List UInt8)) = true := beq_iff_eq.mpr c33
                      have c33b1 : (a0.toList != ([62] : List UInt8)) = false := bne_eq_false_iff_eq.mpr c33
                      clear c33
                      obtain ⟨t130, A340, H⟩ := Option.bind_eq_some_iff.mp H
                      try dsimp only at H
                      have A34 := Aside0.mk A340
                      clear A340
                      simp only [Option.some.injEq, Prod.mk.injEq] at H
                      obtain ⟨rfl, rfl⟩ := H
                      go_wp2_with (first | ((with_reducible refine gate_callee (f := 47) rfl ?_); refine goesL_ (some 19) rfl rfl Tryz.func47 (by kernel_rfl) rfl #[.string a1, .string a2] rfl bkA ?_; (with_reducible refine (Go.Proofs.YtaidmohjnbibiaaGreatDoor.K.reredosref01_Cmp.calls kj3 a1 a2 t118 _ A9.out).mono ?_); rintro e w35 ⟨rfl, hb⟩; refine ⟨_, rfl, ?_⟩; replace HB := bkS hb; clear hb; (try clear hb2); (try clear hk); (try clear hi)) | ((with_reducible refine gate_callee (f := 53) rfl ?_); refine goesL_ (some 65) rfl rfl Tryz.func53 (by kernel_rfl) rfl #[.bool (decide (t118 > 0))] rfl bkA ?_; (with_reducible refine (reredosref12_bit.calls (decide (t118 > 0)) t130 _ A34.out).mono ?_); rintro e w' ⟨rfl, ⟨nd, rfl⟩⟩; refine ⟨_, rfl, ?_⟩))
                      go_ret2
                      exact ⟨bkE, bkB⟩
                    · rw [if_neg c33] at H
                      have c33b0 : (a0.toList == ([62] : List UInt8)) = false := beq_eq_false_iff_ne.mpr c33
                      have c33b1 : (a0.toList != ([62] : List UInt8)) = true := bne_iff_ne.mpr c33
                      by_cases c36 : a0.toList = ([61] : List UInt8)
                      · rw [if_pos c36] at H
                        have c36b0 : (a0.toList == ([61] : List UInt8)) = true := beq_iff_eq.mpr c36
                        have c36b1 : (a0.toList != ([61] : List UInt8)) = false := bne_eq_false_iff_eq.mpr c36
                        clear c36
                        obtain ⟨t131, A370, H⟩ := Option.bind_eq_some_iff.mp H
                        try dsimp only at H
                        have A37 := Aside0.mk A370
                        clear A370
                        simp only [Option.some.injEq, Prod.mk.injEq] at H
                        obtain ⟨rfl, rfl⟩ := H
                        go_wp2_with (first | ((with_reducible refine gate_callee (f := 47) rfl ?_); refine goesL_ (some 19) rfl rfl Tryz.func47 (by kernel_rfl) rfl #[.string a1, .string a2] rfl bkA ?_; (with_reducible refine (Go.Proofs.YtaidmohjnbibiaaGreatDoor.K.reredosref01_Cmp.calls kj3 a1 a2 t118 _ A9.out).mono ?_); rintro e w38 ⟨rfl, hb⟩; refine ⟨_, rfl, ?_⟩; replace HB := bkS hb; clear hb; (try clear hb2); (try clear hk); (try clear hi)) | ((with_reducible refine gate_callee (f := 53) rfl ?_); refine goesL_ (some 70) rfl rfl Tryz.func53 (by kernel_rfl) rfl #[.bool (t118 == 0)] rfl bkA ?_; (with_reducible refine (reredosref12_bit.calls (t118 == 0) t131 _ A37.out).mono ?_); rintro e w' ⟨rfl, ⟨nd, rfl⟩⟩; refine ⟨_, rfl, ?_⟩))
                        go_ret2
                        exact ⟨bkE, bkB⟩
                      · rw [if_neg c36] at H
                        have c36b0 : (a0.toList == ([61] : List UInt8)) = false := beq_eq_false_iff_ne.mpr c36
                        have c36b1 : (a0.toList != ([61] : List UInt8)) = true := bne_iff_ne.mpr c36
                        by_cases c39 : a0.toList = ([126] : List UInt8)
                        · rw [if_pos c39] at H
                          have c39b0 : (a0.toList == ([126] : List UInt8)) = true := beq_iff_eq.mpr c39
                          have c39b1 : (a0.toList != ([126] : List UInt8)) = false := bne_eq_false_iff_eq.mpr c39
                          clear c39
                          obtain ⟨t132, A400, H⟩ := Option.bind_eq_some_iff.mp H
                          try dsimp only at H
                          have A40 := Aside0.mk A400
                          clear A400
                          simp only [Option.some.injEq, Prod.mk.injEq] at H
                          obtain ⟨rfl, rfl⟩ := H
                          go_wp2_with (first | ((with_reducible refine gate_callee (f := 47) rfl ?_); refine goesL_ (some 19) rfl rfl Tryz.func47 (by kernel_rfl) rfl #[.string a1, .string a2] rfl bkA ?_; (with_reducible refine (Go.Proofs.YtaidmohjnbibiaaGreatDoor.K.reredosref01_Cmp.calls kj3 a1 a2 t118 _ A9.out).mono ?_); rintro e w41 ⟨rfl, hb⟩; refine ⟨_, rfl, ?_⟩; replace HB := bkS hb; clear hb; (try clear hb2); (try clear hk); (try clear hi)) | ((with_reducible refine gate_callee (f := 53) rfl ?_); refine goesL_ (some 75) rfl rfl Tryz.func53 (by kernel_rfl) rfl #[.bool (t118 != 0)] rfl bkA ?_; (with_reducible refine (reredosref12_bit.calls (t118 != 0) t132 _ A40.out).mono ?_); rintro e w' ⟨rfl, ⟨nd, rfl⟩⟩; refine ⟨_, rfl, ?_⟩))
                          go_ret2
                          exact ⟨bkE, bkB⟩
                        · rw [if_neg c39] at H
                          have c39b0 : (a0.toList == ([126] : List UInt8)) = false := beq_eq_false_iff_ne.mpr c39
                          have c39b1 : (a0.toList != ([126] : List UInt8)) = true := bne_iff_ne.mpr c39
                          have HC42 := Aside0.mk H
                          clear H
                          go_upto_region 23 with (first | ((with_reducible refine gate_callee (f := 47) rfl ?_); refine goesL_ (some 19) rfl rfl Tryz.func47 (by kernel_rfl) rfl #[.string a1, .string a2] rfl bkA ?_; (with_reducible refine (Go.Proofs.YtaidmohjnbibiaaGreatDoor.K.reredosref01_Cmp.calls kj3 a1 a2 t118 _ A9.out).mono ?_); rintro e w43 ⟨rfl, hb⟩; refine ⟨_, rfl, ?_⟩; replace HB := bkS hb; clear hb; (try clear hb2); (try clear hk); (try clear hi)))
                          (try simp only [Act.put, List.setIfInBounds_toArray, List.set_cons_zero, List.set_cons_succ])
                          go_cut [89] (fun v89 wc => ∃ (kq : Nat) (x89_41 : Bool), v89 = .bool x89_41 ∧ Aside0 (reredosref12_Dyad.j1 kq a0 a1 a2 x89_41 = some (r1, r2)) ∧ Aside0 (kq ≤ kj3) ∧ Aside0 (Below w.heap.size w wc))
                          case first =>
                            have H := HC42.out
                            clear HC42
                            by_cases c44 : a0.toList = ([38] : List UInt8)
                            · rw [if_pos c44] at H
                              have c44b0 : (a0.toList == ([38] : List UInt8)) = true := beq_iff_eq.mpr c44
                              have c44b1 : (a0.toList != ([38] : List UInt8)) = false := bne_eq_false_iff_eq.mpr c44
                              clear c44
                              (first | rw [c44b0] | (simp only [i64_w, i32_w]; rw [c44b0]) | skip)
                              by_cases c45 : t118 < 0
                              · rw [if_pos c45] at H
                                have c45b0 : decide (t118 < 0) = true := decide_eq_true c45
                                clear c45
                                have H' := Aside0.mk H
                                clear H
                                go_wp2
                                go_meet
                                case rel => exact ⟨_, (true), bkF, H', ⟨by have := HJ3.out; first | omega | exact Nat.le_refl _⟩, ⟨bkB⟩⟩
                              · rw [if_neg c45] at H
                                have c45b0 : decide (t118 < 0) = false := decide_eq_false c45
                                clear c45
                                by_cases c46 : a0.toList = ([124] : List UInt8)
                                · rw [if_pos c46] at H
                                  have c46b0 : (a0.toList == ([124] : List UInt8)) = true := beq_iff_eq.mpr c46
                                  have c46b1 : (a0.toList != ([124] : List UInt8)) = false := bne_eq_false_iff_eq.mpr c46
                                  clear c46
                                  have H' := Aside0.mk H
                                  clear H
                                  go_wp2
                                  go_meet
                                  case rel => exact ⟨_, (decide (t118 > 0)), bkF, H', ⟨by have := HJ3.out; first | omega | exact Nat.le_refl _⟩, ⟨bkB⟩⟩
                                · rw [if_neg c46] at H
                                  have c46b0 : (a0.toList == ([124] : List UInt8)) = false := beq_eq_false_iff_ne.mpr c46
                                  have c46b1 : (a0.toList != ([124] : List UInt8)) = true := bne_iff_ne.mpr c46
                                  have H' := Aside0.mk H
                                  clear H
                                  go_wp2
                                  go_meet
                                  case rel => exact ⟨_, (false), bkF, H', ⟨by have := HJ3.out; first | omega | exact Nat.le_refl _⟩, ⟨bkB⟩⟩
                            · rw [if_neg c44] at H
                              have c44b0 : (a0.toList == ([38] : List UInt8)) = false := beq_eq_false_iff_ne.mpr c44
                              have c44b1 : (a0.toList != ([38] : List UInt8)) = true := bne_iff_ne.mpr c44
                              (first | rw [c44b0] | (simp only [i64_w, i32_w]; rw [c44b0]) | skip)
                              by_cases c47 : a0.toList = ([124] : List UInt8)
                              · rw [if_pos c47] at H
                                have c47b0 : (a0.toList == ([124] : List UInt8)) = true := beq_iff_eq.mpr c47
                                have c47b1 : (a0.toList != ([124] : List UInt8)) = false := bne_eq_false_iff_eq.mpr c47
                                clear c47
                                have H' := Aside0.mk H
                                clear H
                                go_wp2
                                go_meet
                                case rel => exact ⟨_, (decide (t118 > 0)), bkF, H', ⟨by have := HJ3.out; first | omega | exact Nat.le_refl _⟩, ⟨bkB⟩⟩
                              · rw [if_neg c47] at H
                                have c47b0 : (a0.toList == ([124] : List UInt8)) = false := beq_eq_false_iff_ne.mpr c47
                                have c47b1 : (a0.toList != ([124] : List UInt8)) = true := bne_iff_ne.mpr c47
                                have H' := Aside0.mk H
                                clear H
                                go_wp2
                                go_meet
                                case rel => exact ⟨_, (false), bkF, H', ⟨by have := HJ3.out; first | omega | exact Nat.le_refl _⟩, ⟨bkB⟩⟩
                          case rest =>
                            clear HC42
                            try clear c1
                            try clear c2
                            try clear p2
                            try clear c3
                            try clear c4
                            try clear c5
                            try clear c6
                            try clear c8
                            try clear c10
                            try clear c10b0
                            try clear c10b1
                            try clear c14
                            try clear c14b0
                            try clear c14b1
                            try clear c17
                            try clear c18
                            try clear c18b0
                            try clear c18b1
                            try clear c22
                            try clear c22b0
                            try clear c22b1
                            try clear c26
                            try clear c26b0
                            try clear c26b1
                            try clear c30
                            try clear c30b0
                            try clear c30b1
                            try clear c33
                            try clear c33b0
                            try clear c33b1
                            try clear c36
                            try clear c36b0
                            try clear c36b1
                            try clear c39
                            try clear c39b0
                            try clear c39b1
                            try clear c44
                            try clear c44b0
                            try clear c44b1
                            try clear c45
                            try clear c45b0
                            try clear c46
                            try clear c46b0
                            try clear c46b1
                            try clear c47
                            try clear c47b0
                            try clear c47b1
                            try clear p2
                            obtain ⟨kq, x89_41, rfl, HA, HJ41, HB⟩ := hcut
                            cases kq with
                            | zero => exact absurd HA.out (by simp [reredosref12_Dyad.j1])
                            | succ kj41 =>
                              have H := HA.out
                              clear HA
                              simp only [reredosref12_Dyad.j1] at H
                              by_cases c48 : x89_41 = true
                              · subst c48
                                rw [if_pos rfl] at H
                                simp only [Option.some.injEq, Prod.mk.injEq] at H
                                obtain ⟨rfl, rfl⟩ := H
                                go_wp2
                                go_ret2
                                exact ⟨bkE, bkB⟩
                              · replace c48 := Bool.eq_false_iff.mpr c48
                                subst c48
                                rw [if_neg Bool.false_ne_true] at H
                                by_cases c49 : a0.toList = ([38] : List UInt8)
                                · rw [if_pos c49] at H
                                  have c49b0 : (a0.toList == ([38] : List UInt8)) = true := beq_iff_eq.mpr c49
                                  have c49b1 : (a0.toList != ([38] : List UInt8)) = false := bne_eq_false_iff_eq.mpr c49
                                  clear c49
                                  simp only [Option.some.injEq, Prod.mk.injEq] at H
                                  obtain ⟨rfl, rfl⟩ := H
                                  go_wp2
                                  go_ret2
                                  exact ⟨bkE, bkB⟩
                                · rw [if_neg c49] at H
                                  have c49b0 : (a0.toList == ([38] : List UInt8)) = false := beq_eq_false_iff_ne.mpr c49
                                  have c49b1 : (a0.toList != ([38] : List UInt8)) = true := bne_iff_ne.mpr c49
                                  by_cases c50 : a0.toList = ([124] : List UInt8)
                                  · rw [if_pos c50] at H
                                    have c50b0 : (a0.toList == ([124] : List UInt8)) = true := beq_iff_eq.mpr c50
                                    have c50b1 : (a0.toList != ([124] : List UInt8)) = false := bne_eq_false_iff_eq.mpr c50
                                    clear c50
                                    simp only [Option.some.injEq, Prod.mk.injEq] at H
                                    obtain ⟨rfl, rfl⟩ := H
                                    go_wp2
                                    go_ret2
                                    exact ⟨bkE, bkB⟩
                                  · rw [if_neg c50] at H
                                    have c50b0 : (a0.toList == ([124] : List UInt8)) = false := beq_eq_false_iff_ne.mpr c50
                                    have c50b1 : (a0.toList != ([124] : List UInt8)) = true := bne_iff_ne.mpr c50
                                    simp only [Option.some.injEq, Prod.mk.injEq] at H
                                    obtain ⟨rfl, rfl⟩ := H
                                    go_wp2
                                    go_ret2
                                    exact ⟨bkE, bkB⟩
/-! ### reredosref12_Monad: function 18 -/
def reredosref12_Monad.f (k : Nat) (a0 : ByteArray) (a1 : ByteArray) : Option (ByteArray × Int) := (Go.Proofs.YtaidmohjnbibiaaGreatDoor.K.reredosref01_May.f k a1).bind fun t133 => (if t133 = true then (if a0.toList = ([45] : List UInt8) then ((Go.Proofs.YtaidmohjnbibiaaGreatDoor.K.reredosref01_Neg.f k a1).bind fun t134 => (some (t134, 0))) else (if a0.toList = ([126] : List UInt8) then ((reredosref12_bit.f (a1.toList == ([48] : List UInt8))).bind fun t135 => (some (t135, 0))) else (if a0.toList = ([42] : List UInt8) then ((Go.Proofs.YtaidmohjnbibiaaGreatDoor.K.reredosref01_Sign.f k a1).bind fun t136 => ((Go.Proofs.YtaidmohjnbibiaaGreatDoor.K.reredosref01_Of.f k t136).bind fun t137 => (some (t137, 0)))) else (some ((⟨#[]⟩ : ByteArray), 1))))) else (some ((⟨#[]⟩ : ByteArray), 1)))
set_option maxHeartbeats 8000000 in
set_option maxRecDepth 100000 in
theorem reredosref12_Monad.calls (k : Nat) (a0 : ByteArray) (a1 : ByteArray) (r1 : ByteArray) (r2 : Int) (w : World) (h : reredosref12_Monad.f k a0 a1 = some (r1, r2)) :
    Calls Tryz.prog 18 #[.string a0, .string a1] w fun e w' => e = .returned (.tuple #[.string r1, .int .i64 r2]) ∧ Below w.heap.size w w' := by
  have HB := Aside0.mk (Below.refl w.heap.size w)
  have H : ((Go.Proofs.YtaidmohjnbibiaaGreatDoor.K.reredosref01_May.f k a1).bind fun t133 => (if t133 = true then (if a0.toList = ([45] : List UInt8) then ((Go.Proofs.YtaidmohjnbibiaaGreatDoor.K.reredosref01_Neg.f k a1).bind fun t134 => (some (t134, 0))) else (if a0.toList = ([126] : List UInt8) then ((reredosref12_bit.f (a1.toList == ([48] : List UInt8))).bind fun t135 => (some (t135, 0))) else (if a0.toList = ([42] : List UInt8) then ((Go.Proofs.YtaidmohjnbibiaaGreatDoor.K.reredosref01_Sign.f k a1).bind fun t136 => ((Go.Proofs.YtaidmohjnbibiaaGreatDoor.K.reredosref01_Of.f k t136).bind fun t137 => (some (t137, 0)))) else (some ((⟨#[]⟩ : ByteArray), 1))))) else (some ((⟨#[]⟩ : ByteArray), 1)))) = some (r1, r2) := h
  clear h
  obtain ⟨t133, A30, H⟩ := Option.bind_eq_some_iff.mp H
  try dsimp only at H
  have A3 := Aside0.mk A30
  clear A30
  by_cases c4 : t133 = true
  · subst c4
    rw [if_pos rfl] at H
    by_cases c5 : a0.toList = ([45] : List UInt8)
    · rw [if_pos c5] at H
      have c5b0 : (a0.toList == ([45] : List UInt8)) = true := beq_iff_eq.mpr c5
      have c5b1 : (a0.toList != ([45] : List UInt8)) = false := bne_eq_false_iff_eq.mpr c5
      clear c5
      obtain ⟨t134, A60, H⟩ := Option.bind_eq_some_iff.mp H
      try dsimp only at H
      have A6 := Aside0.mk A60
      clear A60
      simp only [Option.some.injEq, Prod.mk.injEq] at H
      obtain ⟨rfl, rfl⟩ := H
      go_enter Tryz.func18, Tryz.ntmps18
      go_wp2_with (first | ((with_reducible refine gate_callee (f := 46) rfl ?_); refine goesL_ (some 7) rfl rfl Tryz.func46 (by kernel_rfl) rfl #[.string a1] rfl bkA ?_; (with_reducible refine (Go.Proofs.YtaidmohjnbibiaaGreatDoor.K.reredosref01_May.calls k a1 true _ A3.out).mono ?_); rintro e w' ⟨rfl, ⟨nd, rfl⟩⟩; refine ⟨_, rfl, ?_⟩) | ((with_reducible refine gate_callee (f := 54) rfl ?_); refine goesL_ (some 13) rfl rfl Tryz.func54 (by kernel_rfl) rfl #[.string a1] rfl bkA ?_; (with_reducible refine (Go.Proofs.YtaidmohjnbibiaaGreatDoor.K.reredosref01_Neg.calls k a1 t134 _ A6.out).mono ?_); rintro e w' ⟨rfl, ⟨nd, rfl⟩⟩; refine ⟨_, rfl, ?_⟩))
      go_ret2
      exact ⟨bkE, bkB⟩
    · rw [if_neg c5] at H
      have c5b0 : (a0.toList == ([45] : List UInt8)) = false := beq_eq_false_iff_ne.mpr c5
      have c5b1 : (a0.toList != ([45] : List UInt8)) = true := bne_iff_ne.mpr c5
      by_cases c7 : a0.toList = ([126] : List UInt8)
      · rw [if_pos c7] at H
        have c7b0 : (a0.toList == ([126] : List UInt8)) = true := beq_iff_eq.mpr c7
        have c7b1 : (a0.toList != ([126] : List UInt8)) = false := bne_eq_false_iff_eq.mpr c7
        clear c7
        obtain ⟨t135, A80, H⟩ := Option.bind_eq_some_iff.mp H
        try dsimp only at H
        have A8 := Aside0.mk A80
        clear A80
        simp only [Option.some.injEq, Prod.mk.injEq] at H
        obtain ⟨rfl, rfl⟩ := H
        go_enter Tryz.func18, Tryz.ntmps18
        go_wp2_with (first | ((with_reducible refine gate_callee (f := 46) rfl ?_); refine goesL_ (some 7) rfl rfl Tryz.func46 (by kernel_rfl) rfl #[.string a1] rfl bkA ?_; (with_reducible refine (Go.Proofs.YtaidmohjnbibiaaGreatDoor.K.reredosref01_May.calls k a1 true _ A3.out).mono ?_); rintro e w' ⟨rfl, ⟨nd, rfl⟩⟩; refine ⟨_, rfl, ?_⟩) | ((with_reducible refine gate_callee (f := 53) rfl ?_); refine goesL_ (some 18) rfl rfl Tryz.func53 (by kernel_rfl) rfl #[.bool (a1.toList == ([48] : List UInt8))] rfl bkA ?_; (with_reducible refine (reredosref12_bit.calls (a1.toList == ([48] : List UInt8)) t135 _ A8.out).mono ?_); rintro e w' ⟨rfl, ⟨nd, rfl⟩⟩; refine ⟨_, rfl, ?_⟩))
        go_ret2
        exact ⟨bkE, bkB⟩
      · rw [if_neg c7] at H
        have c7b0 : (a0.toList == ([126] : List UInt8)) = false := beq_eq_false_iff_ne.mpr c7
        have c7b1 : (a0.toList != ([126] : List UInt8)) = true := bne_iff_ne.mpr c7
        by_cases c9 : a0.toList = ([42] : List UInt8)
        · rw [if_pos c9] at H
          have c9b0 : (a0.toList == ([42] : List UInt8)) = true := beq_iff_eq.mpr c9
          have c9b1 : (a0.toList != ([42] : List UInt8)) = false := bne_eq_false_iff_eq.mpr c9
          clear c9
          obtain ⟨t136, A100, H⟩ := Option.bind_eq_some_iff.mp H
          try dsimp only at H
          have A10 := Aside0.mk A100
          clear A100
          obtain ⟨t137, A110, H⟩ := Option.bind_eq_some_iff.mp H
          try dsimp only at H
          have A11 := Aside0.mk A110
          clear A110
          simp only [Option.some.injEq, Prod.mk.injEq] at H
          obtain ⟨rfl, rfl⟩ := H
          go_enter Tryz.func18, Tryz.ntmps18
          go_wp2_with (first | ((with_reducible refine gate_callee (f := 46) rfl ?_); refine goesL_ (some 7) rfl rfl Tryz.func46 (by kernel_rfl) rfl #[.string a1] rfl bkA ?_; (with_reducible refine (Go.Proofs.YtaidmohjnbibiaaGreatDoor.K.reredosref01_May.calls k a1 true _ A3.out).mono ?_); rintro e w' ⟨rfl, ⟨nd, rfl⟩⟩; refine ⟨_, rfl, ?_⟩) | ((with_reducible refine gate_callee (f := 56) rfl ?_); refine goesL_ (some 22) rfl rfl Tryz.func56 (by kernel_rfl) rfl #[.string a1] rfl bkA ?_; (with_reducible refine (Go.Proofs.YtaidmohjnbibiaaGreatDoor.K.reredosref01_Sign.calls k a1 t136 _ A10.out).mono ?_); rintro e w' ⟨rfl, ⟨nd, rfl⟩⟩; refine ⟨_, rfl, ?_⟩) | ((with_reducible refine gate_callee (f := 55) rfl ?_); refine goesL_ (some 23) rfl rfl Tryz.func55 (by kernel_rfl) rfl #[.int .i64 t136] rfl bkA ?_; (with_reducible refine (Go.Proofs.YtaidmohjnbibiaaGreatDoor.K.reredosref01_Of.calls k t136 t137 _ A11.out).mono ?_); rintro e w12 ⟨rfl, hb⟩; refine ⟨_, rfl, ?_⟩; replace HB := bkS hb; clear hb; (try clear hb2); (try clear hk); (try clear hi)))
          go_ret2
          exact ⟨bkE, bkB⟩
        · rw [if_neg c9] at H
          have c9b0 : (a0.toList == ([42] : List UInt8)) = false := beq_eq_false_iff_ne.mpr c9
          have c9b1 : (a0.toList != ([42] : List UInt8)) = true := bne_iff_ne.mpr c9
          simp only [Option.some.injEq, Prod.mk.injEq] at H
          obtain ⟨rfl, rfl⟩ := H
          go_enter Tryz.func18, Tryz.ntmps18
          go_wp2_with (first | ((with_reducible refine gate_callee (f := 46) rfl ?_); refine goesL_ (some 7) rfl rfl Tryz.func46 (by kernel_rfl) rfl #[.string a1] rfl bkA ?_; (with_reducible refine (Go.Proofs.YtaidmohjnbibiaaGreatDoor.K.reredosref01_May.calls k a1 true _ A3.out).mono ?_); rintro e w' ⟨rfl, ⟨nd, rfl⟩⟩; refine ⟨_, rfl, ?_⟩))
          go_ret2
          exact ⟨bkE, bkB⟩
  · replace c4 := Bool.eq_false_iff.mpr c4
    subst c4
    rw [if_neg Bool.false_ne_true] at H
    simp only [Option.some.injEq, Prod.mk.injEq] at H
    obtain ⟨rfl, rfl⟩ := H
    go_enter Tryz.func18, Tryz.ntmps18
    go_wp2_with (first | ((with_reducible refine gate_callee (f := 46) rfl ?_); refine goesL_ (some 7) rfl rfl Tryz.func46 (by kernel_rfl) rfl #[.string a1] rfl bkA ?_; (with_reducible refine (Go.Proofs.YtaidmohjnbibiaaGreatDoor.K.reredosref01_May.calls k a1 false _ A3.out).mono ?_); rintro e w' ⟨rfl, ⟨nd, rfl⟩⟩; refine ⟨_, rfl, ?_⟩))
    go_ret2
    exact ⟨bkE, bkB⟩
/-! ### reredosref12_Whole: function 19 -/
def reredosref12_Whole.f (a0 : ByteArray) : Option (Bool) := if a0.toList = ([43] : List UInt8) then (some true) else (if a0.toList = ([45] : List UInt8) then (some true) else (if a0.toList = ([42] : List UInt8) then (some true) else (if a0.toList = ([38] : List UInt8) then (some true) else (if a0.toList = ([124] : List UInt8) then (some true) else (if a0.toList = ([60] : List UInt8) then (some true) else (if a0.toList = ([62] : List UInt8) then (some true) else (if a0.toList = ([61] : List UInt8) then (some true) else (if a0.toList = ([126] : List UInt8) then (some true) else (some false)))))))))
set_option maxHeartbeats 8000000 in
set_option maxRecDepth 100000 in
theorem reredosref12_Whole.calls (a0 : ByteArray) (r : Bool) (w : World) (h : reredosref12_Whole.f a0 = some r) :
    Calls Tryz.prog 19 #[.string a0] w fun e w' => e = .returned (.bool r) ∧ Drawn0 w w' := by
  have H : (if a0.toList = ([43] : List UInt8) then (some true) else (if a0.toList = ([45] : List UInt8) then (some true) else (if a0.toList = ([42] : List UInt8) then (some true) else (if a0.toList = ([38] : List UInt8) then (some true) else (if a0.toList = ([124] : List UInt8) then (some true) else (if a0.toList = ([60] : List UInt8) then (some true) else (if a0.toList = ([62] : List UInt8) then (some true) else (if a0.toList = ([61] : List UInt8) then (some true) else (if a0.toList = ([126] : List UInt8) then (some true) else (some false)))))))))) = some r := h
  clear h
  by_cases c2 : a0.toList = ([43] : List UInt8)
  · rw [if_pos c2] at H
    have c2b0 : (a0.toList == ([43] : List UInt8)) = true := beq_iff_eq.mpr c2
    have c2b1 : (a0.toList != ([43] : List UInt8)) = false := bne_eq_false_iff_eq.mpr c2
    clear c2
    obtain rfl := Option.some.inj H
    go_enter Tryz.func19, Tryz.ntmps19
    go_wp2
    go_ret
    exact ⟨bkF, bkD⟩
  · rw [if_neg c2] at H
    have c2b0 : (a0.toList == ([43] : List UInt8)) = false := beq_eq_false_iff_ne.mpr c2
    have c2b1 : (a0.toList != ([43] : List UInt8)) = true := bne_iff_ne.mpr c2
    by_cases c3 : a0.toList = ([45] : List UInt8)
    · rw [if_pos c3] at H
      have c3b0 : (a0.toList == ([45] : List UInt8)) = true := beq_iff_eq.mpr c3
      have c3b1 : (a0.toList != ([45] : List UInt8)) = false := bne_eq_false_iff_eq.mpr c3
      clear c3
      obtain rfl := Option.some.inj H
      go_enter Tryz.func19, Tryz.ntmps19
      go_wp2
      go_ret
      exact ⟨bkF, bkD⟩
    · rw [if_neg c3] at H
      have c3b0 : (a0.toList == ([45] : List UInt8)) = false := beq_eq_false_iff_ne.mpr c3
      have c3b1 : (a0.toList != ([45] : List UInt8)) = true := bne_iff_ne.mpr c3
      by_cases c4 : a0.toList = ([42] : List UInt8)
      · rw [if_pos c4] at H
        have c4b0 : (a0.toList == ([42] : List UInt8)) = true := beq_iff_eq.mpr c4
        have c4b1 : (a0.toList != ([42] : List UInt8)) = false := bne_eq_false_iff_eq.mpr c4
        clear c4
        obtain rfl := Option.some.inj H
        go_enter Tryz.func19, Tryz.ntmps19
        go_wp2
        go_ret
        exact ⟨bkF, bkD⟩
      · rw [if_neg c4] at H
        have c4b0 : (a0.toList == ([42] : List UInt8)) = false := beq_eq_false_iff_ne.mpr c4
        have c4b1 : (a0.toList != ([42] : List UInt8)) = true := bne_iff_ne.mpr c4
        by_cases c5 : a0.toList = ([38] : List UInt8)
        · rw [if_pos c5] at H
          have c5b0 : (a0.toList == ([38] : List UInt8)) = true := beq_iff_eq.mpr c5
          have c5b1 : (a0.toList != ([38] : List UInt8)) = false := bne_eq_false_iff_eq.mpr c5
          clear c5
          obtain rfl := Option.some.inj H
          go_enter Tryz.func19, Tryz.ntmps19
          go_wp2
          go_ret
          exact ⟨bkF, bkD⟩
        · rw [if_neg c5] at H
          have c5b0 : (a0.toList == ([38] : List UInt8)) = false := beq_eq_false_iff_ne.mpr c5
          have c5b1 : (a0.toList != ([38] : List UInt8)) = true := bne_iff_ne.mpr c5
          by_cases c6 : a0.toList = ([124] : List UInt8)
          · rw [if_pos c6] at H
            have c6b0 : (a0.toList == ([124] : List UInt8)) = true := beq_iff_eq.mpr c6
            have c6b1 : (a0.toList != ([124] : List UInt8)) = false := bne_eq_false_iff_eq.mpr c6
            clear c6
            obtain rfl := Option.some.inj H
            go_enter Tryz.func19, Tryz.ntmps19
            go_wp2
            go_ret
            exact ⟨bkF, bkD⟩
          · rw [if_neg c6] at H
            have c6b0 : (a0.toList == ([124] : List UInt8)) = false := beq_eq_false_iff_ne.mpr c6
            have c6b1 : (a0.toList != ([124] : List UInt8)) = true := bne_iff_ne.mpr c6
            by_cases c7 : a0.toList = ([60] : List UInt8)
            · rw [if_pos c7] at H
              have c7b0 : (a0.toList == ([60] : List UInt8)) = true := beq_iff_eq.mpr c7
              have c7b1 : (a0.toList != ([60] : List UInt8)) = false := bne_eq_false_iff_eq.mpr c7
              clear c7
              obtain rfl := Option.some.inj H
              go_enter Tryz.func19, Tryz.ntmps19
              go_wp2
              go_ret
              exact ⟨bkF, bkD⟩
            · rw [if_neg c7] at H
              have c7b0 : (a0.toList == ([60] : List UInt8)) = false := beq_eq_false_iff_ne.mpr c7
              have c7b1 : (a0.toList != ([60] : List UInt8)) = true := bne_iff_ne.mpr c7
              by_cases c8 : a0.toList = ([62] : List UInt8)
              · rw [if_pos c8] at H
                have c8b0 : (a0.toList == ([62] : List UInt8)) = true := beq_iff_eq.mpr c8
                have c8b1 : (a0.toList != ([62] : List UInt8)) = false := bne_eq_false_iff_eq.mpr c8
                clear c8
                obtain rfl := Option.some.inj H
                go_enter Tryz.func19, Tryz.ntmps19
                go_wp2
                go_ret
                exact ⟨bkF, bkD⟩
              · rw [if_neg c8] at H
                have c8b0 : (a0.toList == ([62] : List UInt8)) = false := beq_eq_false_iff_ne.mpr c8
                have c8b1 : (a0.toList != ([62] : List UInt8)) = true := bne_iff_ne.mpr c8
                by_cases c9 : a0.toList = ([61] : List UInt8)
                · rw [if_pos c9] at H
                  have c9b0 : (a0.toList == ([61] : List UInt8)) = true := beq_iff_eq.mpr c9
                  have c9b1 : (a0.toList != ([61] : List UInt8)) = false := bne_eq_false_iff_eq.mpr c9
                  clear c9
                  obtain rfl := Option.some.inj H
                  go_enter Tryz.func19, Tryz.ntmps19
                  go_wp2
                  go_ret
                  exact ⟨bkF, bkD⟩
                · rw [if_neg c9] at H
                  have c9b0 : (a0.toList == ([61] : List UInt8)) = false := beq_eq_false_iff_ne.mpr c9
                  have c9b1 : (a0.toList != ([61] : List UInt8)) = true := bne_iff_ne.mpr c9
                  by_cases c10 : a0.toList = ([126] : List UInt8)
                  · rw [if_pos c10] at H
                    have c10b0 : (a0.toList == ([126] : List UInt8)) = true := beq_iff_eq.mpr c10
                    have c10b1 : (a0.toList != ([126] : List UInt8)) = false := bne_eq_false_iff_eq.mpr c10
                    clear c10
                    obtain rfl := Option.some.inj H
                    go_enter Tryz.func19, Tryz.ntmps19
                    go_wp2
                    go_ret
                    exact ⟨bkF, bkD⟩
                  · rw [if_neg c10] at H
                    have c10b0 : (a0.toList == ([126] : List UInt8)) = false := beq_eq_false_iff_ne.mpr c10
                    have c10b1 : (a0.toList != ([126] : List UInt8)) = true := bne_iff_ne.mpr c10
                    obtain rfl := Option.some.inj H
                    go_enter Tryz.func19, Tryz.ntmps19
                    go_wp2
                    go_ret
                    exact ⟨bkF, bkD⟩
end Go.Proofs.YtaidmohjnbibiaaGreatDoor.SC
end
