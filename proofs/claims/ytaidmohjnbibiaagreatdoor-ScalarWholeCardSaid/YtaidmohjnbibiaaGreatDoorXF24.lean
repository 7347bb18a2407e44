/- What the law leans on, part 25: declarations of several texts of ours, in their order. -/
import Derived.Test.YtaidmohjnbibiaaGreatDoorXF23
import Derived.Test.YtaidmohjnbibiaaGreatDoorProg
import Derived.Below
import Derived.Deep.Draws
import Derived.Deep.AppendLies
import Derived.Maps.AppendAt
import Derived.OwnWalk
import Derived.Laws.BytesArg
import Derived.Laws.MakeOwn
import Derived.Laws.OwnMore
import Derived.Deep.OwnRows
import Derived.Tactics
import Derived.Lib.ConvBytes
import Derived.Laws.Slices
import Derived.WalkKit
import Derived.KernelRfl
import Derived.RowKit3
import Derived.Deep.LoopGhost
import Derived.Deep.QuietTactic
import Derived.BigQuiet
import Derived.WideLaws
import Derived.Deep.DeepCutAuto
import Derived.Deep.CutBlock
import Derived.Deep.RegionHeld3
import Derived.Laws.Rows
import Derived.Lib.AppendStr
import Derived.ArgAppend
import Derived.Laws.IdiomCopy
import Derived.OrdersHeld
import Derived.Laws.BitsLemmas
import Derived.RowKit
import Derived.Test.YtaidmohjnbibiaaGreatDoorXF0
import Derived.Test.YtaidmohjnbibiaaGreatDoorXF1
import Derived.Test.YtaidmohjnbibiaaGreatDoorXF2
import Derived.Test.YtaidmohjnbibiaaGreatDoorXF9
import Derived.Test.YtaidmohjnbibiaaGreatDoorXF21
section
namespace Go.Proofs.YtaidmohjnbibiaaGreatDoor.M
open Go.RowKit Go.Proofs.YtaidmohjnbibiaaGreatDoorW.PrintWords Go.Proofs.YtaidmohjnbibiaaGreatDoorW.PrintLast Go.Proofs.YtaidmohjnbibiaaGreatDoorW.PrintMore Go.Proofs.YtaidmohjnbibiaaGreatDoor.B Go.Proofs.YtaidmohjnbibiaaGreatDoor.K Go.Proofs.YtaidmohjnbibiaaGreatDoor.L
attribute [local go_sem] max2_int min2_int max_two min_two max_three min_three max_four min_four
set_option linter.unusedVariables false
set_option linter.unusedSimpArgs false
/-! ### num_of_Div1: function 187 -/
def num_of_Div1.j0 : Nat → ByteArray → ByteArray → Bool → Option (ByteArray × Int)
  | 0, _, _, _ => none
  | k + 1, x0, x1, x15 => if x15 = true then (some ((⟨#[]⟩ : ByteArray), 1)) else ((Go.Proofs.YtaidmohjnbibiaaGreatDoor.K.num_read.f k x0).bind fun bt103 => ((Go.Proofs.YtaidmohjnbibiaaGreatDoor.K.num_read.f k x1).bind fun bt107 => ((_root_.Go.Proofs.YtaidmohjnbibiaaGreatDoor.Hd.Div1.f bt103.1 bt103.2 bt107.1 bt107.2).bind fun bt111 => ((L.num_told.f k bt111.1 bt111.2).bind fun bt115 => (some (bt115.1, bt115.2))))))
def num_of_Div1.f (k : Nat) (a0 : ByteArray) (a1 : ByteArray) : Option (ByteArray × Int) := (Go.Proofs.YtaidmohjnbibiaaGreatDoor.K.num_May.f a0).bind fun t101 => (if t101 = true then ((Go.Proofs.YtaidmohjnbibiaaGreatDoor.K.num_May.f a1).bind fun t102 => (num_of_Div1.j0 k a0 a1 (!t102))) else (num_of_Div1.j0 k a0 a1 true))
set_option maxHeartbeats 8000000 in
set_option maxRecDepth 100000 in
theorem num_of_Div1.calls (k : Nat) (a0 : ByteArray) (a1 : ByteArray) (r1 : ByteArray) (r2 : Int) (w : World) (hG : Hd.GL w) (h : num_of_Div1.f k a0 a1 = some (r1, r2)) :
    Calls Tryz.prog 59 #[.string a0, .string a1, .func (.func 63) #[] #[]] w fun e w' => e = .returned (.tuple #[.string r1, .int .i64 r2]) ∧ Below w.heap.size w w' := by
  have HGL := Aside0.mk hG
  clear hG
  have HB := Aside0.mk (Below.refl w.heap.size w)
  have H : ((Go.Proofs.YtaidmohjnbibiaaGreatDoor.K.num_May.f a0).bind fun t101 => (if t101 = true then ((Go.Proofs.YtaidmohjnbibiaaGreatDoor.K.num_May.f a1).bind fun t102 => (num_of_Div1.j0 k a0 a1 (!t102))) else (num_of_Div1.j0 k a0 a1 true))) = some (r1, r2) := h
  clear h
  have HC3 := Aside0.mk H
  clear H
  go_enter Tryz.func59, Tryz.ntmps59
  go_upto_region 1 with (fail)
  go_cut [15] (fun v15 wc => ∃ (kq : Nat) (x15_2 : Bool), v15 = .bool x15_2 ∧ Aside0 (num_of_Div1.j0 kq a0 a1 x15_2 = some (r1, r2)) ∧ Aside0 (kq ≤ k) ∧ Aside0 (Below w.heap.size w wc))
  case first =>
    have H := HC3.out
    clear HC3
    obtain ⟨t101, A40, H⟩ := Option.bind_eq_some_iff.mp H
    try dsimp only at H
    have A4 := Aside0.mk A40
    clear A40
    by_cases c5 : t101 = true
    · subst c5
      rw [if_pos rfl] at H
      obtain ⟨t102, A60, H⟩ := Option.bind_eq_some_iff.mp H
      try dsimp only at H
      have A6 := Aside0.mk A60
      clear A60
      have H' := Aside0.mk H
      clear H
      go_wp2_with (first | ((with_reducible refine gate_callee (f := 10) rfl ?_); refine goesL_ (some 9) rfl rfl Tryz.func10 (by kernel_rfl) rfl #[.string a0] rfl bkA ?_; (with_reducible refine (Go.Proofs.YtaidmohjnbibiaaGreatDoor.K.num_May.calls a0 true _ A4.out).mono ?_); rintro e w7 ⟨rfl, hb⟩; refine ⟨_, rfl, ?_⟩; replace HB := bkS hb; clear hb; (try clear hb2); (try clear hk); (try clear hi)) | (go_at_call 10; (with_reducible refine (Go.Proofs.YtaidmohjnbibiaaGreatDoor.K.num_May.calls a1 t102 _ A6.out).mono ?_); rintro e w8 ⟨rfl, hb⟩; replace HB := bkS hb; clear hb; (try clear hb2); (try clear hk); (try clear hi)))
      go_meet
      case rel => exact ⟨_, (!t102), bkF, H', ⟨by first | omega | exact Nat.le_refl _⟩, ⟨bkB⟩⟩
    · replace c5 := Bool.eq_false_iff.mpr c5
      subst c5
      rw [if_neg Bool.false_ne_true] at H
      have H' := Aside0.mk H
      clear H
      go_wp2_with (first | ((with_reducible refine gate_callee (f := 10) rfl ?_); refine goesL_ (some 9) rfl rfl Tryz.func10 (by kernel_rfl) rfl #[.string a0] rfl bkA ?_; (with_reducible refine (Go.Proofs.YtaidmohjnbibiaaGreatDoor.K.num_May.calls a0 false _ A4.out).mono ?_); rintro e w9 ⟨rfl, hb⟩; refine ⟨_, rfl, ?_⟩; replace HB := bkS hb; clear hb; (try clear hb2); (try clear hk); (try clear hi)))
      go_meet
      case rel => exact ⟨_, (true), bkF, H', ⟨by first | omega | exact Nat.le_refl _⟩, ⟨bkB⟩⟩
  case rest =>
    clear HC3
    try clear c1
    try clear p2
    try clear c5
    obtain ⟨kq, x15_2, rfl, HA, HJ2, HB⟩ := hcut
    cases kq with
    | zero => exact absurd HA.out (by simp [num_of_Div1.j0])
    | succ kj2 =>
      have H := HA.out
      clear HA
      simp only [num_of_Div1.j0] at H
      by_cases c10 : x15_2 = true
      · subst c10
        rw [if_pos rfl] at H
        simp only [Option.some.injEq, Prod.mk.injEq] at H
        obtain ⟨rfl, rfl⟩ := H
        go_wp2
        go_ret2
        exact ⟨bkE, bkB⟩
      · replace c10 := Bool.eq_false_iff.mpr c10
        subst c10
        rw [if_neg Bool.false_ne_true] at H
        obtain ⟨⟨t103, t106⟩, A110, H⟩ := Option.bind_eq_some_iff.mp H
        try dsimp only at H
        have A11 := Aside0.mk A110
        clear A110
        obtain ⟨⟨t107, t110⟩, A120, H⟩ := Option.bind_eq_some_iff.mp H
        try dsimp only at H
        have A12 := Aside0.mk A120
        clear A120
        obtain ⟨⟨t111, t114⟩, A130, H⟩ := Option.bind_eq_some_iff.mp H
        try dsimp only at H
        have A13 := Aside0.mk A130
        clear A130
        obtain ⟨⟨t115, t116⟩, A140, H⟩ := Option.bind_eq_some_iff.mp H
        try dsimp only at H
        have A14 := Aside0.mk A140
        clear A140
        simp only [Option.some.injEq, Prod.mk.injEq] at H
        obtain ⟨rfl, rfl⟩ := H
        go_wp2_with (first | ((with_reducible refine gate_callee (f := 38) rfl ?_); refine goesL_ (some 18) rfl rfl Tryz.func38 (by kernel_rfl) rfl #[.string a0] rfl bkA ?_; (with_reducible refine (Go.Proofs.YtaidmohjnbibiaaGreatDoor.K.num_read.calls kj2 a0 t103 t106 _ A11.out).mono ?_); rintro e w15 ⟨v104, rfl, ho0, hb⟩; refine ⟨_, rfl, ?_⟩; have n0_ := Aside0.mk (Kd.V_lower (Kd.V_mono (ok' := fun k_ => True) ho0 (fun k_ hk_ => trivial)) (below_size bkB)); have n1_ := Aside0.mk (below_step bkB hb); clear HB; have HO105 := n0_; have HB := n1_; clear n0_ n1_; (try clear hb); (try clear hb2); (try clear hk); (try clear hi); (try clear ho0)) | ((with_reducible refine gate_callee (f := 38) rfl ?_); refine goesL_ (some 20) rfl rfl Tryz.func38 (by kernel_rfl) rfl #[.string a1] rfl bkA ?_; (with_reducible refine (Go.Proofs.YtaidmohjnbibiaaGreatDoor.K.num_read.calls kj2 a1 t107 t110 _ A12.out).mono ?_); rintro e w16 ⟨v108, rfl, ho0, hb⟩; refine ⟨_, rfl, ?_⟩; have n0_ := Aside0.mk (Kd.V_below (by (with_reducible repeat (first | apply Kd.V_alloc | apply Kd.V_drewN | apply Kd.V_drew)); exact HO105.out) hb); have n1_ := Aside0.mk (Kd.V_lower (Kd.V_mono (ok' := fun k_ => True) ho0 (fun k_ hk_ => trivial)) (below_size bkB)); have n2_ := Aside0.mk (below_step bkB hb); clear HO105; clear HB; have HO105 := n0_; have HO109 := n1_; have HB := n2_; clear n0_ n1_ n2_; (try clear hb); (try clear hb2); (try clear hk); (try clear hi); (try clear ho0); obtain ⟨Ao17, co17, eo17⟩ := Kd.V_slice HO105.out; subst eo17; obtain ⟨Ao18, co18, eo18⟩ := Kd.V_slice HO109.out; subst eo18) | (go_at_call 63; (with_reducible refine (_root_.Go.Proofs.YtaidmohjnbibiaaGreatDoor.Hd.Div1.calls _ _ t103 t106 _ _ t107 t110 t111 t114 _ ?side1 ?side2 ?side3 ?side4 A13.out).mono ?_); (case side1 => repeat (first | exact (Kd.V_reads' HO105.out).2.2 | (with_reducible refine Kd.C_alloc ?_ _) | (with_reducible refine Kd.C_drewN ?_ _) | (with_reducible refine Kd.C_drew ?_))); (case side2 => exact (Kd.V_reads' HO105.out).2.1); (case side3 => repeat (first | exact (Kd.V_reads' HO109.out).2.2 | (with_reducible refine Kd.C_alloc ?_ _) | (with_reducible refine Kd.C_drewN ?_ _) | (with_reducible refine Kd.C_drew ?_))); (case side4 => exact (Kd.V_reads' HO109.out).2.1); rintro e w19 ⟨v112, rfl, ho0, hb⟩; have n0_ := Aside0.mk (Kd.V_below (by (with_reducible repeat (first | apply Kd.V_alloc | apply Kd.V_drewN | apply Kd.V_drew)); exact HO105.out) hb); have n1_ := Aside0.mk (Kd.V_below (by (with_reducible repeat (first | apply Kd.V_alloc | apply Kd.V_drewN | apply Kd.V_drew)); exact HO109.out) hb); have n2_ := Aside0.mk (Kd.V_lower (Kd.V_mono (ok' := fun k_ => True) ho0 (fun k_ hk_ => trivial)) (below_size bkB)); have n3_ := Aside0.mk (below_step bkB hb); clear HO105; clear HO109; clear HB; have HO105 := n0_; have HO109 := n1_; have HO113 := n2_; have HB := n3_; clear n0_ n1_ n2_ n3_; (try clear hb); (try clear hb2); (try clear hk); (try clear hi); (try clear ho0); obtain ⟨Ao20, co20, eo20⟩ := Kd.V_slice HO113.out; subst eo20) | ((with_reducible refine gate_callee (f := 83) rfl ?_); refine goesL_ (some 22) rfl rfl Tryz.func83 (by kernel_rfl) rfl #[.agg #[.slice Ao20 t111.length co20, .bool t114]] rfl bkA ?_; (with_reducible refine (L.num_told.calls kj2 _ _ t111 t114 t115 t116 _ ?side1 ?side2 ?side3 A14.out).mono ?_); (case side1 => repeat (first | exact (Kd.V_reads' HO113.out).2.2 | (with_reducible refine Kd.C_alloc ?_ _) | (with_reducible refine Kd.C_drewN ?_ _) | (with_reducible refine Kd.C_drew ?_))); (case side2 => exact (Kd.V_reads' HO113.out).2.1); (case side3 => exact Hd.GL.below HGL.out bkB); rintro e w21 ⟨rfl, hb⟩; refine ⟨_, rfl, ?_⟩; have n0_ := Aside0.mk (Kd.V_below (by (with_reducible repeat (first | apply Kd.V_alloc | apply Kd.V_drewN | apply Kd.V_drew)); exact HO105.out) hb); have n1_ := Aside0.mk (Kd.V_below (by (with_reducible repeat (first | apply Kd.V_alloc | apply Kd.V_drewN | apply Kd.V_drew)); exact HO109.out) hb); have n2_ := Aside0.mk (Kd.V_below (by (with_reducible repeat (first | apply Kd.V_alloc | apply Kd.V_drewN | apply Kd.V_drew)); exact HO113.out) hb); have n3_ := Aside0.mk (below_step bkB hb); clear HO105; clear HO109; clear HO113; clear HB; have HO105 := n0_; have HO109 := n1_; have HO113 := n2_; have HB := n3_; clear n0_ n1_ n2_ n3_; (try clear hb); (try clear hb2); (try clear hk); (try clear hi)))
        go_ret2
        exact ⟨bkE, bkB⟩
/-! ### num_of_Mod1: function 189 -/
def num_of_Mod1.j0 : Nat → ByteArray → ByteArray → Bool → Option (ByteArray × Int)
  | 0, _, _, _ => none
  | k + 1, x0, x1, x15 => if x15 = true then (some ((⟨#[]⟩ : ByteArray), 1)) else ((Go.Proofs.YtaidmohjnbibiaaGreatDoor.K.num_read.f k x0).bind fun bt119 => ((Go.Proofs.YtaidmohjnbibiaaGreatDoor.K.num_read.f k x1).bind fun bt123 => ((_root_.Go.Proofs.YtaidmohjnbibiaaGreatDoor.Hd.Mod1.f bt119.1 bt119.2 bt123.1 bt123.2).bind fun bt127 => ((L.num_told.f k bt127.1 bt127.2).bind fun bt131 => (some (bt131.1, bt131.2))))))
def num_of_Mod1.f (k : Nat) (a0 : ByteArray) (a1 : ByteArray) : Option (ByteArray × Int) := (Go.Proofs.YtaidmohjnbibiaaGreatDoor.K.num_May.f a0).bind fun t117 => (if t117 = true then ((Go.Proofs.YtaidmohjnbibiaaGreatDoor.K.num_May.f a1).bind fun t118 => (num_of_Mod1.j0 k a0 a1 (!t118))) else (num_of_Mod1.j0 k a0 a1 true))
set_option maxHeartbeats 8000000 in
set_option maxRecDepth 100000 in
theorem num_of_Mod1.calls (k : Nat) (a0 : ByteArray) (a1 : ByteArray) (r1 : ByteArray) (r2 : Int) (w : World) (hG : Hd.GL w) (h : num_of_Mod1.f k a0 a1 = some (r1, r2)) :
    Calls Tryz.prog 59 #[.string a0, .string a1, .func (.func 65) #[] #[]] w fun e w' => e = .returned (.tuple #[.string r1, .int .i64 r2]) ∧ Below w.heap.size w w' := by
  have HGL := Aside0.mk hG
  clear hG
  have HB := Aside0.mk (Below.refl w.heap.size w)
  have H : ((Go.Proofs.YtaidmohjnbibiaaGreatDoor.K.num_May.f a0).bind fun t117 => (if t117 = true then ((Go.Proofs.YtaidmohjnbibiaaGreatDoor.K.num_May.f a1).bind fun t118 => (num_of_Mod1.j0 k a0 a1 (!t118))) else (num_of_Mod1.j0 k a0 a1 true))) = some (r1, r2) := h
  clear h
  have HC3 := Aside0.mk H
  clear H
  go_enter Tryz.func59, Tryz.ntmps59
  go_upto_region 1 with (fail)
  go_cut [15] (fun v15 wc => ∃ (kq : Nat) (x15_2 : Bool), v15 = .bool x15_2 ∧ Aside0 (num_of_Mod1.j0 kq a0 a1 x15_2 = some (r1, r2)) ∧ Aside0 (kq ≤ k) ∧ Aside0 (Below w.heap.size w wc))
  case first =>
    have H := HC3.out
    clear HC3
    obtain ⟨t117, A40, H⟩ := Option.bind_eq_some_iff.mp H
    try dsimp only at H
    have A4 := Aside0.mk A40
    clear A40
    by_cases c5 : t117 = true
    · subst c5
      rw [if_pos rfl] at H
      obtain ⟨t118, A60, H⟩ := Option.bind_eq_some_iff.mp H
      try dsimp only at H
      have A6 := Aside0.mk A60
      clear A60
      have H' := Aside0.mk H
      clear H
      go_wp2_with (first | ((with_reducible refine gate_callee (f := 10) rfl ?_); refine goesL_ (some 9) rfl rfl Tryz.func10 (by kernel_rfl) rfl #[.string a0] rfl bkA ?_; (with_reducible refine (Go.Proofs.YtaidmohjnbibiaaGreatDoor.K.num_May.calls a0 true _ A4.out).mono ?_); rintro e w7 ⟨rfl, hb⟩; refine ⟨_, rfl, ?_⟩; replace HB := bkS hb; clear hb; (try clear hb2); (try clear hk); (try clear hi)) | (go_at_call 10; (with_reducible refine (Go.Proofs.YtaidmohjnbibiaaGreatDoor.K.num_May.calls a1 t118 _ A6.out).mono ?_); rintro e w8 ⟨rfl, hb⟩; replace HB := bkS hb; clear hb; (try clear hb2); (try clear hk); (try clear hi)))
      go_meet
      case rel => exact ⟨_, (!t118), bkF, H', ⟨by first | omega | exact Nat.le_refl _⟩, ⟨bkB⟩⟩
    · replace c5 := Bool.eq_false_iff.mpr c5
      subst c5
      rw [if_neg Bool.false_ne_true] at H
      have H' := Aside0.mk H
      clear H
      go_wp2_with (first | ((with_reducible refine gate_callee (f := 10) rfl ?_); refine goesL_ (some 9) rfl rfl Tryz.func10 (by kernel_rfl) rfl #[.string a0] rfl bkA ?_; (with_reducible refine (Go.Proofs.YtaidmohjnbibiaaGreatDoor.K.num_May.calls a0 false _ A4.out).mono ?_); rintro e w9 ⟨rfl, hb⟩; refine ⟨_, rfl, ?_⟩; replace HB := bkS hb; clear hb; (try clear hb2); (try clear hk); (try clear hi)))
      go_meet
      case rel => exact ⟨_, (true), bkF, H', ⟨by first | omega | exact Nat.le_refl _⟩, ⟨bkB⟩⟩
  case rest =>
    clear HC3
    try clear c1
    try clear p2
    try clear c5
    obtain ⟨kq, x15_2, rfl, HA, HJ2, HB⟩ := hcut
    cases kq with
    | zero => exact absurd HA.out (by simp [num_of_Mod1.j0])
    | succ kj2 =>
      have H := HA.out
      clear HA
      simp only [num_of_Mod1.j0] at H
      by_cases c10 : x15_2 = true
      · subst c10
        rw [if_pos rfl] at H
        simp only [Option.some.injEq, Prod.mk.injEq] at H
        obtain ⟨rfl, rfl⟩ := H
        go_wp2
        go_ret2
        exact ⟨bkE, bkB⟩
      · replace c10 := Bool.eq_false_iff.mpr c10
        subst c10
        rw [if_neg Bool.false_ne_true] at H
        obtain ⟨⟨t119, t122⟩, A110, H⟩ := Option.bind_eq_some_iff.mp H
        try dsimp only at H
        have A11 := Aside0.mk A110
        clear A110
        obtain ⟨⟨t123, t126⟩, A120, H⟩ := Option.bind_eq_some_iff.mp H
        try dsimp only at H
        have A12 := Aside0.mk A120
        clear A120
        obtain ⟨⟨t127, t130⟩, A130, H⟩ := Option.bind_eq_some_iff.mp H
        try dsimp only at H
        have A13 := Aside0.mk A130
        clear A130
        obtain ⟨⟨t131, t132⟩, A140, H⟩ := Option.bind_eq_some_iff.mp H
        try dsimp only at H
        have A14 := Aside0.mk A140
        clear A140
        simp only [Option.some.injEq, Prod.mk.injEq] at H
        obtain ⟨rfl, rfl⟩ := H
        go_wp2_with (first | ((with_reducible refine gate_callee (f := 38) rfl ?_); refine goesL_ (some 18) rfl rfl Tryz.func38 (by kernel_rfl) rfl #[.string a0] rfl bkA ?_; (with_reducible refine (Go.Proofs.YtaidmohjnbibiaaGreatDoor.K.num_read.calls kj2 a0 t119 t122 _ A11.out).mono ?_); rintro e w15 ⟨v120, rfl, ho0, hb⟩; refine ⟨_, rfl, ?_⟩; have n0_ := Aside0.mk (Kd.V_lower (Kd.V_mono (ok' := fun k_ => True) ho0 (fun k_ hk_ => trivial)) (below_size bkB)); have n1_ := Aside0.mk (below_step bkB hb); clear HB; have HO121 := n0_; have HB := n1_; clear n0_ n1_; (try clear hb); (try clear hb2); (try clear hk); (try clear hi); (try clear ho0)) | ((with_reducible refine gate_callee (f := 38) rfl ?_); refine goesL_ (some 20) rfl rfl Tryz.func38 (by kernel_rfl) rfl #[.string a1] rfl bkA ?_; (with_reducible refine (Go.Proofs.YtaidmohjnbibiaaGreatDoor.K.num_read.calls kj2 a1 t123 t126 _ A12.out).mono ?_); rintro e w16 ⟨v124, rfl, ho0, hb⟩; refine ⟨_, rfl, ?_⟩; have n0_ := Aside0.mk (Kd.V_below (by (with_reducible repeat (first | apply Kd.V_alloc | apply Kd.V_drewN | apply Kd.V_drew)); exact HO121.out) hb); have n1_ := Aside0.mk (Kd.V_lower (Kd.V_mono (ok' := fun k_ => True) ho0 (fun k_ hk_ => trivial)) (below_size bkB)); have n2_ := Aside0.mk (below_step bkB hb); clear HO121; clear HB; have HO121 := n0_; have HO125 := n1_; have HB := n2_; clear n0_ n1_ n2_; (try clear hb); (try clear hb2); (try clear hk); (try clear hi); (try clear ho0); obtain ⟨Ao17, co17, eo17⟩ := Kd.V_slice HO121.out; subst eo17; obtain ⟨Ao18, co18, eo18⟩ := Kd.V_slice HO125.out; subst eo18) | (go_at_call 65; (with_reducible refine (_root_.Go.Proofs.YtaidmohjnbibiaaGreatDoor.Hd.Mod1.calls _ _ t119 t122 _ _ t123 t126 t127 t130 _ ?side1 ?side2 ?side3 ?side4 A13.out).mono ?_); (case side1 => repeat (first | exact (Kd.V_reads' HO121.out).2.2 | (with_reducible refine Kd.C_alloc ?_ _) | (with_reducible refine Kd.C_drewN ?_ _) | (with_reducible refine Kd.C_drew ?_))); (case side2 => exact (Kd.V_reads' HO121.out).2.1); (case side3 => repeat (first | exact (Kd.V_reads' HO125.out).2.2 | (with_reducible refine Kd.C_alloc ?_ _) | (with_reducible refine Kd.C_drewN ?_ _) | (with_reducible refine Kd.C_drew ?_))); (case side4 => exact (Kd.V_reads' HO125.out).2.1); rintro e w19 ⟨v128, rfl, ho0, hb⟩; have n0_ := Aside0.mk (Kd.V_below (by (with_reducible repeat (first | apply Kd.V_alloc | apply Kd.V_drewN | apply Kd.V_drew)); exact HO121.out) hb); have n1_ := Aside0.mk (Kd.V_below (by (with_reducible repeat (first | apply Kd.V_alloc | apply Kd.V_drewN | apply Kd.V_drew)); exact HO125.out) hb); have n2_ := Aside0.mk (Kd.V_lower (Kd.V_mono (ok' := fun k_ => True) ho0 (fun k_ hk_ => trivial)) (below_size bkB)); have n3_ := Aside0.mk (below_step bkB hb); clear HO121; clear HO125; clear HB; have HO121 := n0_; have HO125 := n1_; have HO129 := n2_; have HB := n3_; clear n0_ n1_ n2_ n3_; (try clear hb); (try clear hb2); (try clear hk); (try clear hi); (try clear ho0); obtain ⟨Ao20, co20, eo20⟩ := Kd.V_slice HO129.out; subst eo20) | ((with_reducible refine gate_callee (f := 83) rfl ?_); refine goesL_ (some 22) rfl rfl Tryz.func83 (by kernel_rfl) rfl #[.agg #[.slice Ao20 t127.length co20, .bool t130]] rfl bkA ?_; (with_reducible refine (L.num_told.calls kj2 _ _ t127 t130 t131 t132 _ ?side1 ?side2 ?side3 A14.out).mono ?_); (case side1 => repeat (first | exact (Kd.V_reads' HO129.out).2.2 | (with_reducible refine Kd.C_alloc ?_ _) | (with_reducible refine Kd.C_drewN ?_ _) | (with_reducible refine Kd.C_drew ?_))); (case side2 => exact (Kd.V_reads' HO129.out).2.1); (case side3 => exact Hd.GL.below HGL.out bkB); rintro e w21 ⟨rfl, hb⟩; refine ⟨_, rfl, ?_⟩; have n0_ := Aside0.mk (Kd.V_below (by (with_reducible repeat (first | apply Kd.V_alloc | apply Kd.V_drewN | apply Kd.V_drew)); exact HO121.out) hb); have n1_ := Aside0.mk (Kd.V_below (by (with_reducible repeat (first | apply Kd.V_alloc | apply Kd.V_drewN | apply Kd.V_drew)); exact HO125.out) hb); have n2_ := Aside0.mk (Kd.V_below (by (with_reducible repeat (first | apply Kd.V_alloc | apply Kd.V_drewN | apply Kd.V_drew)); exact HO129.out) hb); have n3_ := Aside0.mk (below_step bkB hb); clear HO121; clear HO125; clear HO129; clear HB; have HO121 := n0_; have HO125 := n1_; have HO129 := n2_; have HB := n3_; clear n0_ n1_ n2_ n3_; (try clear hb); (try clear hb2); (try clear hk); (try clear hi)))
        go_ret2
        exact ⟨bkE, bkB⟩
/-! ### num_Div: function 27 -/
def num_Div.f (k : Nat) (a0 : ByteArray) (a1 : ByteArray) : Option (ByteArray × Int) := (Go.Proofs.YtaidmohjnbibiaaGreatDoor.K.num_May.f a0).bind fun t133 => (if t133 = true then (if a1.toList = ([48] : List UInt8) then (some ((⟨#[]⟩ : ByteArray), 5)) else ((num_of_Div1.f k a0 a1).bind fun bt134 => (some (bt134.1, bt134.2)))) else ((num_of_Div1.f k a0 a1).bind fun bt136 => (some (bt136.1, bt136.2))))
set_option maxHeartbeats 8000000 in
set_option maxRecDepth 100000 in
theorem num_Div.calls (k : Nat) (a0 : ByteArray) (a1 : ByteArray) (r1 : ByteArray) (r2 : Int) (w : World) (hG : Hd.GL w) (h : num_Div.f k a0 a1 = some (r1, r2)) :
    Calls Tryz.prog 27 #[.string a0, .string a1] w fun e w' => e = .returned (.tuple #[.string r1, .int .i64 r2]) ∧ Below w.heap.size w w' := by
  have HGL := Aside0.mk hG
  clear hG
  have HB := Aside0.mk (Below.refl w.heap.size w)
  have H : ((Go.Proofs.YtaidmohjnbibiaaGreatDoor.K.num_May.f a0).bind fun t133 => (if t133 = true then (if a1.toList = ([48] : List UInt8) then (some ((⟨#[]⟩ : ByteArray), 5)) else ((num_of_Div1.f k a0 a1).bind fun bt134 => (some (bt134.1, bt134.2)))) else ((num_of_Div1.f k a0 a1).bind fun bt136 => (some (bt136.1, bt136.2))))) = some (r1, r2) := h
  clear h
  obtain ⟨t133, A30, H⟩ := Option.bind_eq_some_iff.mp H
  try dsimp only at H
  have A3 := Aside0.mk A30
  clear A30
  by_cases c4 : t133 = true
  · subst c4
    rw [if_pos rfl] at H
    by_cases c5 : a1.toList = ([48] : List UInt8)
    · rw [if_pos c5] at H
      have c5b0 : (a1.toList == ([48] : List UInt8)) = true := beq_iff_eq.mpr c5
      have c5b1 : (a1.toList != ([48] : List UInt8)) = false := bne_eq_false_iff_eq.mpr c5
      clear c5
      simp only [Option.some.injEq, Prod.mk.injEq] at H
      obtain ⟨rfl, rfl⟩ := H
      go_enter Tryz.func27, Tryz.ntmps27
      go_wp2_with (first | ((with_reducible refine gate_callee (f := 10) rfl ?_); refine goesL_ (some 7) rfl rfl Tryz.func10 (by kernel_rfl) rfl #[.string a0] rfl bkA ?_; (with_reducible refine (Go.Proofs.YtaidmohjnbibiaaGreatDoor.K.num_May.calls a0 true _ A3.out).mono ?_); rintro e w6 ⟨rfl, hb⟩; refine ⟨_, rfl, ?_⟩; replace HB := bkS hb; clear hb; (try clear hb2); (try clear hk); (try clear hi)))
      go_ret2
      exact ⟨bkE, bkB⟩
    · rw [if_neg c5] at H
      have c5b0 : (a1.toList == ([48] : List UInt8)) = false := beq_eq_false_iff_ne.mpr c5
      have c5b1 : (a1.toList != ([48] : List UInt8)) = true := bne_iff_ne.mpr c5
      obtain ⟨⟨t134, t135⟩, A70, H⟩ := Option.bind_eq_some_iff.mp H
      try dsimp only at H
      have A7 := Aside0.mk A70
      clear A70
      simp only [Option.some.injEq, Prod.mk.injEq] at H
      obtain ⟨rfl, rfl⟩ := H
      go_enter Tryz.func27, Tryz.ntmps27
      go_wp2_with (first | ((with_reducible refine gate_callee (f := 10) rfl ?_); refine goesL_ (some 7) rfl rfl Tryz.func10 (by kernel_rfl) rfl #[.string a0] rfl bkA ?_; (with_reducible refine (Go.Proofs.YtaidmohjnbibiaaGreatDoor.K.num_May.calls a0 true _ A3.out).mono ?_); rintro e w8 ⟨rfl, hb⟩; refine ⟨_, rfl, ?_⟩; replace HB := bkS hb; clear hb; (try clear hb2); (try clear hk); (try clear hi)) | ((with_reducible refine gate_callee (f := 59) rfl ?_); refine goesL_ (some 14) rfl rfl Tryz.func59 (by kernel_rfl) rfl #[.string a0, .string a1, .func (.func 63) #[] #[]] rfl bkA ?_; (with_reducible refine (num_of_Div1.calls k a0 a1 t134 t135 _ ?side1 A7.out).mono ?_); (case side1 => exact Hd.GL.below HGL.out bkB); rintro e w9 ⟨rfl, hb⟩; refine ⟨_, rfl, ?_⟩; replace HB := bkS hb; clear hb; (try clear hb2); (try clear hk); (try clear hi)))
      go_ret2
      exact ⟨bkE, bkB⟩
  · replace c4 := Bool.eq_false_iff.mpr c4
    subst c4
    rw [if_neg Bool.false_ne_true] at H
    obtain ⟨⟨t136, t137⟩, A100, H⟩ := Option.bind_eq_some_iff.mp H
    try dsimp only at H
    have A10 := Aside0.mk A100
    clear A100
    simp only [Option.some.injEq, Prod.mk.injEq] at H
    obtain ⟨rfl, rfl⟩ := H
    go_enter Tryz.func27, Tryz.ntmps27
    go_wp2_with (first | ((with_reducible refine gate_callee (f := 10) rfl ?_); refine goesL_ (some 7) rfl rfl Tryz.func10 (by kernel_rfl) rfl #[.string a0] rfl bkA ?_; (with_reducible refine (Go.Proofs.YtaidmohjnbibiaaGreatDoor.K.num_May.calls a0 false _ A3.out).mono ?_); rintro e w11 ⟨rfl, hb⟩; refine ⟨_, rfl, ?_⟩; replace HB := bkS hb; clear hb; (try clear hb2); (try clear hk); (try clear hi)) | ((with_reducible refine gate_callee (f := 59) rfl ?_); refine goesL_ (some 14) rfl rfl Tryz.func59 (by kernel_rfl) rfl #[.string a0, .string a1, .func (.func 63) #[] #[]] rfl bkA ?_; (with_reducible refine (num_of_Div1.calls k a0 a1 t136 t137 _ ?side1 A10.out).mono ?_); (case side1 => exact Hd.GL.below HGL.out bkB); rintro e w12 ⟨rfl, hb⟩; refine ⟨_, rfl, ?_⟩; replace HB := bkS hb; clear hb; (try clear hb2); (try clear hk); (try clear hi)))
    go_ret2
    exact ⟨bkE, bkB⟩
/-! ### num_Mod: function 28 -/
def num_Mod.f (k : Nat) (a0 : ByteArray) (a1 : ByteArray) : Option (ByteArray × Int) := (Go.Proofs.YtaidmohjnbibiaaGreatDoor.K.num_May.f a0).bind fun t138 => (if t138 = true then (if a1.toList = ([48] : List UInt8) then (some ((⟨#[]⟩ : ByteArray), 5)) else ((num_of_Mod1.f k a0 a1).bind fun bt139 => (some (bt139.1, bt139.2)))) else ((num_of_Mod1.f k a0 a1).bind fun bt141 => (some (bt141.1, bt141.2))))
set_option maxHeartbeats 8000000 in
set_option maxRecDepth 100000 in
theorem num_Mod.calls (k : Nat) (a0 : ByteArray) (a1 : ByteArray) (r1 : ByteArray) (r2 : Int) (w : World) (hG : Hd.GL w) (h : num_Mod.f k a0 a1 = some (r1, r2)) :
    Calls Tryz.prog 28 #[.string a0, .string a1] w fun e w' => e = .returned (.tuple #[.string r1, .int .i64 r2]) ∧ Below w.heap.size w w' := by
  have HGL := Aside0.mk hG
  clear hG
  have HB := Aside0.mk (Below.refl w.heap.size w)
  have H : ((Go.Proofs.YtaidmohjnbibiaaGreatDoor.K.num_May.f a0).bind fun t138 => (if t138 = true then (if a1.toList = ([48] : List UInt8) then (some ((⟨#[]⟩ : ByteArray), 5)) else ((num_of_Mod1.f k a0 a1).bind fun bt139 => (some (bt139.1, bt139.2)))) else ((num_of_Mod1.f k a0 a1).bind fun bt141 => (some (bt141.1, bt141.2))))) = some (r1, r2) := h
  clear h
  obtain ⟨t138, A30, H⟩ := Option.bind_eq_some_iff.mp H
  try dsimp only at H
  have A3 := Aside0.mk A30
  clear A30
  by_cases c4 : t138 = true
  · subst c4
    rw [if_pos rfl] at H
    by_cases c5 : a1.toList = ([48] : List UInt8)
    · rw [if_pos c5] at H
      have c5b0 : (a1.toList == ([48] : List UInt8)) = true := beq_iff_eq.mpr c5
      have c5b1 : (a1.toList != ([48] : List UInt8)) = false := bne_eq_false_iff_eq.mpr c5
      clear c5
      simp only [Option.some.injEq, Prod.mk.injEq] at H
      obtain ⟨rfl, rfl⟩ := H
      go_enter Tryz.func28, Tryz.ntmps28
      go_wp2_with (first | ((with_reducible refine gate_callee (f := 10) rfl ?_); refine goesL_ (some 7) rfl rfl Tryz.func10 (by kernel_rfl) rfl #[.string a0] rfl bkA ?_; (with_reducible refine (Go.Proofs.YtaidmohjnbibiaaGreatDoor.K.num_May.calls a0 true _ A3.out).mono ?_); rintro e w6 ⟨rfl, hb⟩; refine ⟨_, rfl, ?_⟩; replace HB := bkS hb; clear hb; (try clear hb2); (try clear hk); (try clear hi)))
      go_ret2
      exact ⟨bkE, bkB⟩
    · rw [if_neg c5] at H
      have c5b0 : (a1.toList == ([48] : List UInt8)) = false := beq_eq_false_iff_ne.mpr c5
      have c5b1 : (a1.toList != ([48] : List UInt8)) = true := bne_iff_ne.mpr c5
      obtain ⟨⟨t139, t140⟩, A70, H⟩ := Option.bind_eq_some_iff.mp H
      try dsimp only at H
      have A7 := Aside0.mk A70
      clear A70
      simp only [Option.some.injEq, Prod.mk.injEq] at H
      obtain ⟨rfl, rfl⟩ := H
      go_enter Tryz.func28, Tryz.ntmps28
      go_wp2_with (first | ((with_reducible refine gate_callee (f := 10) rfl ?_); refine goesL_ (some 7) rfl rfl Tryz.func10 (by kernel_rfl) rfl #[.string a0] rfl bkA ?_; (with_reducible refine (Go.Proofs.YtaidmohjnbibiaaGreatDoor.K.num_May.calls a0 true _ A3.out).mono ?_); rintro e w8 ⟨rfl, hb⟩; refine ⟨_, rfl, ?_⟩; replace HB := bkS hb; clear hb; (try clear hb2); (try clear hk); (try clear hi)) | ((with_reducible refine gate_callee (f := 59) rfl ?_); refine goesL_ (some 14) rfl rfl Tryz.func59 (by kernel_rfl) rfl #[.string a0, .string a1, .func (.func 65) #[] #[]] rfl bkA ?_; (with_reducible refine (num_of_Mod1.calls k a0 a1 t139 t140 _ ?side1 A7.out).mono ?_); (case side1 => exact Hd.GL.below HGL.out bkB); rintro e w9 ⟨rfl, hb⟩; refine ⟨_, rfl, ?_⟩; replace HB := bkS hb; clear hb; (try clear hb2); (try clear hk); (try clear hi)))
      go_ret2
      exact ⟨bkE, bkB⟩
  · replace c4 := Bool.eq_false_iff.mpr c4
    subst c4
    rw [if_neg Bool.false_ne_true] at H
    obtain ⟨⟨t141, t142⟩, A100, H⟩ := Option.bind_eq_some_iff.mp H
    try dsimp only at H
    have A10 := Aside0.mk A100
    clear A100
    simp only [Option.some.injEq, Prod.mk.injEq] at H
    obtain ⟨rfl, rfl⟩ := H
    go_enter Tryz.func28, Tryz.ntmps28
    go_wp2_with (first | ((with_reducible refine gate_callee (f := 10) rfl ?_); refine goesL_ (some 7) rfl rfl Tryz.func10 (by kernel_rfl) rfl #[.string a0] rfl bkA ?_; (with_reducible refine (Go.Proofs.YtaidmohjnbibiaaGreatDoor.K.num_May.calls a0 false _ A3.out).mono ?_); rintro e w11 ⟨rfl, hb⟩; refine ⟨_, rfl, ?_⟩; replace HB := bkS hb; clear hb; (try clear hb2); (try clear hk); (try clear hi)) | ((with_reducible refine gate_callee (f := 59) rfl ?_); refine goesL_ (some 14) rfl rfl Tryz.func59 (by kernel_rfl) rfl #[.string a0, .string a1, .func (.func 65) #[] #[]] rfl bkA ?_; (with_reducible refine (num_of_Mod1.calls k a0 a1 t141 t142 _ ?side1 A10.out).mono ?_); (case side1 => exact Hd.GL.below HGL.out bkB); rintro e w12 ⟨rfl, hb⟩; refine ⟨_, rfl, ?_⟩; replace HB := bkS hb; clear hb; (try clear hb2); (try clear hk); (try clear hi)))
    go_ret2
    exact ⟨bkE, bkB⟩
end Go.Proofs.YtaidmohjnbibiaaGreatDoor.M
end
section
namespace Go.Proofs.YtaidmohjnbibiaaGreatDoor.SC
open Go.RowKit Go.Proofs.YtaidmohjnbibiaaGreatDoorW.PrintWords Go.Proofs.YtaidmohjnbibiaaGreatDoorW.PrintLast Go.Proofs.YtaidmohjnbibiaaGreatDoorW.PrintMore Go.Proofs.YtaidmohjnbibiaaGreatDoor.B Go.Proofs.YtaidmohjnbibiaaGreatDoor.K Go.Proofs.YtaidmohjnbibiaaGreatDoor.L Go.Proofs.YtaidmohjnbibiaaGreatDoor.M
attribute [local go_sem] max2_int min2_int max_two min_two max_three min_three max_four min_four
set_option linter.unusedVariables false
set_option linter.unusedSimpArgs false
/-! ### scalar_pick: function 30 -/
def scalar_pick.f (a0 : Bool) (a1 : ByteArray) (a2 : ByteArray) : Option (ByteArray × Int) := if a0 = true then (some (a1, 0)) else (some (a2, 0))
set_option maxHeartbeats 8000000 in
set_option maxRecDepth 100000 in
theorem scalar_pick.calls (a0 : Bool) (a1 : ByteArray) (a2 : ByteArray) (r1 : ByteArray) (r2 : Int) (w : World) (h : scalar_pick.f a0 a1 a2 = some (r1, r2)) :
    Calls Tryz.prog 30 #[.bool a0, .string a1, .string a2] w fun e w' => e = .returned (.tuple #[.string r1, .int .i64 r2]) ∧ Drawn0 w w' := by
  have H : (if a0 = true then (some (a1, 0)) else (some (a2, 0))) = some (r1, r2) := h
  clear h
  by_cases c4 : a0 = true
  · subst c4
    rw [if_pos rfl] at H
    simp only [Option.some.injEq, Prod.mk.injEq] at H
    obtain ⟨rfl, rfl⟩ := H
    go_enter Tryz.func30, Tryz.ntmps30
    go_wp2
    go_ret2
    exact ⟨bkF, bkD⟩
  · replace c4 := Bool.eq_false_iff.mpr c4
    subst c4
    rw [if_neg Bool.false_ne_true] at H
    simp only [Option.some.injEq, Prod.mk.injEq] at H
    obtain ⟨rfl, rfl⟩ := H
    go_enter Tryz.func30, Tryz.ntmps30
    go_wp2
    go_ret2
    exact ⟨bkF, bkD⟩
/-! ### scalar_Dyad_1: function 29 -/
def scalar_Dyad_1.f (k : Nat) (a0 : ByteArray) (a1 : ByteArray) : Option (ByteArray × Int) := (L.num_Cmp.f k a0 a1).bind fun t101 => ((scalar_pick.f (decide (t101 ≤ 0)) a0 a1).bind fun bt102 => (some (bt102.1, bt102.2)))
set_option maxHeartbeats 8000000 in
set_option maxRecDepth 100000 in
theorem scalar_Dyad_1.calls (k : Nat) (a0 : ByteArray) (a1 : ByteArray) (r1 : ByteArray) (r2 : Int) (w : World) (h : scalar_Dyad_1.f k a0 a1 = some (r1, r2)) :
    Calls Tryz.prog 29 #[.string a0, .string a1] w fun e w' => e = .returned (.tuple #[.string r1, .int .i64 r2]) ∧ Below w.heap.size w w' := by
  have HB := Aside0.mk (Below.refl w.heap.size w)
  have H : ((L.num_Cmp.f k a0 a1).bind fun t101 => ((scalar_pick.f (decide (t101 ≤ 0)) a0 a1).bind fun bt102 => (some (bt102.1, bt102.2)))) = some (r1, r2) := h
  clear h
  obtain ⟨t101, A30, H⟩ := Option.bind_eq_some_iff.mp H
  try dsimp only at H
  have A3 := Aside0.mk A30
  clear A30
  obtain ⟨⟨t102, t103⟩, A40, H⟩ := Option.bind_eq_some_iff.mp H
  try dsimp only at H
  have A4 := Aside0.mk A40
  clear A40
  simp only [Option.some.injEq, Prod.mk.injEq] at H
  obtain ⟨rfl, rfl⟩ := H
  go_enter Tryz.func29, Tryz.ntmps29
  go_wp2_with (first | ((with_reducible refine gate_callee (f := 12) rfl ?_); refine goesL_ (some 8) rfl rfl Tryz.func12 (by kernel_rfl) rfl #[.string a0, .string a1] rfl bkA ?_; (with_reducible refine (L.num_Cmp.calls k a0 a1 t101 _ A3.out).mono ?_); rintro e w5 ⟨rfl, hb⟩; refine ⟨_, rfl, ?_⟩; replace HB := bkS hb; clear hb; (try clear hb2); (try clear hk); (try clear hi)) | ((with_reducible refine gate_callee (f := 30) rfl ?_); refine goesL_ (some 12) rfl rfl Tryz.func30 (by kernel_rfl) rfl #[.bool (decide (t101 ≤ 0)), .string a0, .string a1] rfl bkA ?_; (with_reducible refine (scalar_pick.calls (decide (t101 ≤ 0)) a0 a1 t102 t103 _ A4.out).mono ?_); rintro e w' ⟨rfl, ⟨nd, rfl⟩⟩; refine ⟨_, rfl, ?_⟩))
  go_ret2
  exact ⟨bkE, bkB⟩
/-! ### scalar_Dyad_2: function 31 -/
def scalar_Dyad_2.f (k : Nat) (a0 : ByteArray) (a1 : ByteArray) : Option (ByteArray × Int) := (L.num_Cmp.f k a0 a1).bind fun t104 => ((scalar_pick.f (decide (t104 ≥ 0)) a0 a1).bind fun bt105 => (some (bt105.1, bt105.2)))
set_option maxHeartbeats 8000000 in
set_option maxRecDepth 100000 in
theorem scalar_Dyad_2.calls (k : Nat) (a0 : ByteArray) (a1 : ByteArray) (r1 : ByteArray) (r2 : Int) (w : World) (h : scalar_Dyad_2.f k a0 a1 = some (r1, r2)) :
    Calls Tryz.prog 31 #[.string a0, .string a1] w fun e w' => e = .returned (.tuple #[.string r1, .int .i64 r2]) ∧ Below w.heap.size w w' := by
  have HB := Aside0.mk (Below.refl w.heap.size w)
  have H : ((L.num_Cmp.f k a0 a1).bind fun t104 => ((scalar_pick.f (decide (t104 ≥ 0)) a0 a1).bind fun bt105 => (some (bt105.1, bt105.2)))) = some (r1, r2) := h
  clear h
  obtain ⟨t104, A30, H⟩ := Option.bind_eq_some_iff.mp H
  try dsimp only at H
  have A3 := Aside0.mk A30
  clear A30
  obtain ⟨⟨t105, t106⟩, A40, H⟩ := Option.bind_eq_some_iff.mp H
  try dsimp only at H
  have A4 := Aside0.mk A40
  clear A40
  simp only [Option.some.injEq, Prod.mk.injEq] at H
  obtain ⟨rfl, rfl⟩ := H
  go_enter Tryz.func31, Tryz.ntmps31
  go_wp2_with (first | ((with_reducible refine gate_callee (f := 12) rfl ?_); refine goesL_ (some 8) rfl rfl Tryz.func12 (by kernel_rfl) rfl #[.string a0, .string a1] rfl bkA ?_; (with_reducible refine (L.num_Cmp.calls k a0 a1 t104 _ A3.out).mono ?_); rintro e w5 ⟨rfl, hb⟩; refine ⟨_, rfl, ?_⟩; replace HB := bkS hb; clear hb; (try clear hb2); (try clear hk); (try clear hi)) | ((with_reducible refine gate_callee (f := 30) rfl ?_); refine goesL_ (some 12) rfl rfl Tryz.func30 (by kernel_rfl) rfl #[.bool (decide (t104 ≥ 0)), .string a0, .string a1] rfl bkA ?_; (with_reducible refine (scalar_pick.calls (decide (t104 ≥ 0)) a0 a1 t105 t106 _ A4.out).mono ?_); rintro e w' ⟨rfl, ⟨nd, rfl⟩⟩; refine ⟨_, rfl, ?_⟩))
  go_ret2
  exact ⟨bkE, bkB⟩
/-! ### scalar_told: function 33 -/
def scalar_told.f (a0 : Bool) : Option (ByteArray) := if a0 = true then (some (⟨#[49]⟩ : ByteArray)) else (some (⟨#[48]⟩ : ByteArray))
set_option maxHeartbeats 8000000 in
set_option maxRecDepth 100000 in
theorem scalar_told.calls (a0 : Bool) (r : ByteArray) (w : World) (h : scalar_told.f a0 = some r) :
    Calls Tryz.prog 33 #[.bool a0] w fun e w' => e = .returned (.string r) ∧ Drawn0 w w' := by
  have H : (if a0 = true then (some (⟨#[49]⟩ : ByteArray)) else (some (⟨#[48]⟩ : ByteArray))) = some r := h
  clear h
  by_cases c2 : a0 = true
  · subst c2
    rw [if_pos rfl] at H
    obtain rfl := Option.some.inj H
    go_enter Tryz.func33, Tryz.ntmps33
    go_wp2
    go_ret
    exact ⟨bkF, bkD⟩
  · replace c2 := Bool.eq_false_iff.mpr c2
    subst c2
    rw [if_neg Bool.false_ne_true] at H
    obtain rfl := Option.some.inj H
    go_enter Tryz.func33, Tryz.ntmps33
    go_wp2
    go_ret
    exact ⟨bkF, bkD⟩
/-! ### scalar_Dyad_3: function 32 -/
def scalar_Dyad_3.f (k : Nat) (a0 : ByteArray) (a1 : ByteArray) : Option (ByteArray × Int) := (L.num_Cmp.f k a0 a1).bind fun t107 => ((scalar_told.f (decide (t107 < 0))).bind fun t108 => (some (t108, 0)))
set_option maxHeartbeats 8000000 in
set_option maxRecDepth 100000 in
theorem scalar_Dyad_3.calls (k : Nat) (a0 : ByteArray) (a1 : ByteArray) (r1 : ByteArray) (r2 : Int) (w : World) (h : scalar_Dyad_3.f k a0 a1 = some (r1, r2)) :
    Calls Tryz.prog 32 #[.string a0, .string a1] w fun e w' => e = .returned (.tuple #[.string r1, .int .i64 r2]) ∧ Below w.heap.size w w' := by
  have HB := Aside0.mk (Below.refl w.heap.size w)
  have H : ((L.num_Cmp.f k a0 a1).bind fun t107 => ((scalar_told.f (decide (t107 < 0))).bind fun t108 => (some (t108, 0)))) = some (r1, r2) := h
  clear h
  obtain ⟨t107, A30, H⟩ := Option.bind_eq_some_iff.mp H
  try dsimp only at H
  have A3 := Aside0.mk A30
  clear A30
  obtain ⟨t108, A40, H⟩ := Option.bind_eq_some_iff.mp H
  try dsimp only at H
  have A4 := Aside0.mk A40
  clear A40
  simp only [Option.some.injEq, Prod.mk.injEq] at H
  obtain ⟨rfl, rfl⟩ := H
  go_enter Tryz.func32, Tryz.ntmps32
  go_wp2_with (first | ((with_reducible refine gate_callee (f := 12) rfl ?_); refine goesL_ (some 8) rfl rfl Tryz.func12 (by kernel_rfl) rfl #[.string a0, .string a1] rfl bkA ?_; (with_reducible refine (L.num_Cmp.calls k a0 a1 t107 _ A3.out).mono ?_); rintro e w5 ⟨rfl, hb⟩; refine ⟨_, rfl, ?_⟩; replace HB := bkS hb; clear hb; (try clear hb2); (try clear hk); (try clear hi)) | ((with_reducible refine gate_callee (f := 33) rfl ?_); refine goesL_ (some 10) rfl rfl Tryz.func33 (by kernel_rfl) rfl #[.bool (decide (t107 < 0))] rfl bkA ?_; (with_reducible refine (scalar_told.calls (decide (t107 < 0)) t108 _ A4.out).mono ?_); rintro e w' ⟨rfl, ⟨nd, rfl⟩⟩; refine ⟨_, rfl, ?_⟩))
  go_ret2
  exact ⟨bkE, bkB⟩
/-! ### scalar_Dyad_4: function 34 -/
def scalar_Dyad_4.f (k : Nat) (a0 : ByteArray) (a1 : ByteArray) : Option (ByteArray × Int) := (L.num_Cmp.f k a0 a1).bind fun t109 => ((scalar_told.f (decide (t109 > 0))).bind fun t110 => (some (t110, 0)))
set_option maxHeartbeats 8000000 in
set_option maxRecDepth 100000 in
theorem scalar_Dyad_4.calls (k : Nat) (a0 : ByteArray) (a1 : ByteArray) (r1 : ByteArray) (r2 : Int) (w : World) (h : scalar_Dyad_4.f k a0 a1 = some (r1, r2)) :
    Calls Tryz.prog 34 #[.string a0, .string a1] w fun e w' => e = .returned (.tuple #[.string r1, .int .i64 r2]) ∧ Below w.heap.size w w' := by
  have HB := Aside0.mk (Below.refl w.heap.size w)
  have H : ((L.num_Cmp.f k a0 a1).bind fun t109 => ((scalar_told.f (decide (t109 > 0))).bind fun t110 => (some (t110, 0)))) = some (r1, r2) := h
  clear h
  obtain ⟨t109, A30, H⟩ := Option.bind_eq_some_iff.mp H
  try dsimp only at H
  have A3 := Aside0.mk A30
  clear A30
  obtain ⟨t110, A40, H⟩ := Option.bind_eq_some_iff.mp H
  try dsimp only at H
  have A4 := Aside0.mk A40
  clear A40
  simp only [Option.some.injEq, Prod.mk.injEq] at H
  obtain ⟨rfl, rfl⟩ := H
  go_enter Tryz.func34, Tryz.ntmps34
  go_wp2_with (first | ((with_reducible refine gate_callee (f := 12) rfl ?_); refine goesL_ (some 8) rfl rfl Tryz.func12 (by kernel_rfl) rfl #[.string a0, .string a1] rfl bkA ?_; (with_reducible refine (L.num_Cmp.calls k a0 a1 t109 _ A3.out).mono ?_); rintro e w5 ⟨rfl, hb⟩; refine ⟨_, rfl, ?_⟩; replace HB := bkS hb; clear hb; (try clear hb2); (try clear hk); (try clear hi)) | ((with_reducible refine gate_callee (f := 33) rfl ?_); refine goesL_ (some 10) rfl rfl Tryz.func33 (by kernel_rfl) rfl #[.bool (decide (t109 > 0))] rfl bkA ?_; (with_reducible refine (scalar_told.calls (decide (t109 > 0)) t110 _ A4.out).mono ?_); rintro e w' ⟨rfl, ⟨nd, rfl⟩⟩; refine ⟨_, rfl, ?_⟩))
  go_ret2
  exact ⟨bkE, bkB⟩
/-! ### scalar_Dyad_5: function 35 -/
def scalar_Dyad_5.f (a0 : ByteArray) (a1 : ByteArray) : Option (ByteArray × Int) := (scalar_told.f (a0.toList == a1.toList)).bind fun t111 => (some (t111, 0))
set_option maxHeartbeats 8000000 in
set_option maxRecDepth 100000 in
theorem scalar_Dyad_5.calls (a0 : ByteArray) (a1 : ByteArray) (r1 : ByteArray) (r2 : Int) (w : World) (h : scalar_Dyad_5.f a0 a1 = some (r1, r2)) :
    Calls Tryz.prog 35 #[.string a0, .string a1] w fun e w' => e = .returned (.tuple #[.string r1, .int .i64 r2]) ∧ Drawn0 w w' := by
  have H : ((scalar_told.f (a0.toList == a1.toList)).bind fun t111 => (some (t111, 0))) = some (r1, r2) := h
  clear h
  obtain ⟨t111, A30, H⟩ := Option.bind_eq_some_iff.mp H
  try dsimp only at H
  have A3 := Aside0.mk A30
  clear A30
  simp only [Option.some.injEq, Prod.mk.injEq] at H
  obtain ⟨rfl, rfl⟩ := H
  go_enter Tryz.func35, Tryz.ntmps35
  go_wp2_with (first | ((with_reducible refine gate_callee (f := 33) rfl ?_); refine goesL_ (some 9) rfl rfl Tryz.func33 (by kernel_rfl) rfl #[.bool (a0.toList == a1.toList)] rfl bkA ?_; (with_reducible refine (scalar_told.calls (a0.toList == a1.toList) t111 _ A3.out).mono ?_); rintro e w' ⟨rfl, ⟨nd, rfl⟩⟩; refine ⟨_, rfl, ?_⟩))
  go_ret2
  exact ⟨bkF, bkD⟩
/-! ### scalar_Dyad_6: function 36 -/
def scalar_Dyad_6.f (a0 : ByteArray) (a1 : ByteArray) : Option (ByteArray × Int) := (scalar_told.f (a0.toList != a1.toList)).bind fun t112 => (some (t112, 0))
set_option maxHeartbeats 8000000 in
set_option maxRecDepth 100000 in
theorem scalar_Dyad_6.calls (a0 : ByteArray) (a1 : ByteArray) (r1 : ByteArray) (r2 : Int) (w : World) (h : scalar_Dyad_6.f a0 a1 = some (r1, r2)) :
    Calls Tryz.prog 36 #[.string a0, .string a1] w fun e w' => e = .returned (.tuple #[.string r1, .int .i64 r2]) ∧ Drawn0 w w' := by
  have H : ((scalar_told.f (a0.toList != a1.toList)).bind fun t112 => (some (t112, 0))) = some (r1, r2) := h
  clear h
  obtain ⟨t112, A30, H⟩ := Option.bind_eq_some_iff.mp H
  try dsimp only at H
  have A3 := Aside0.mk A30
  clear A30
  simp only [Option.some.injEq, Prod.mk.injEq] at H
  obtain ⟨rfl, rfl⟩ := H
  go_enter Tryz.func36, Tryz.ntmps36
  go_wp2_with (first | ((with_reducible refine gate_callee (f := 33) rfl ?_); refine goesL_ (some 9) rfl rfl Tryz.func33 (by kernel_rfl) rfl #[.bool (a0.toList != a1.toList)] rfl bkA ?_; (with_reducible refine (scalar_told.calls (a0.toList != a1.toList) t112 _ A3.out).mono ?_); rintro e w' ⟨rfl, ⟨nd, rfl⟩⟩; refine ⟨_, rfl, ?_⟩))
  go_ret2
  exact ⟨bkF, bkD⟩
/-! ### scalar_Dyads: function 15 -/
def scalar_Dyads.f  : Option (ByteArray) := some (⟨#[43, 45, 42, 37, 33, 38, 124, 60, 62, 61, 126]⟩ : ByteArray)
set_option maxHeartbeats 8000000 in
set_option maxRecDepth 100000 in
theorem scalar_Dyads.calls  (r : ByteArray) (w : World) (h : scalar_Dyads.f  = some r) :
    Calls Tryz.prog 15 #[] w fun e w' => e = .returned (.string r) ∧ Drawn0 w w' := by
  have H : (some (⟨#[43, 45, 42, 37, 33, 38, 124, 60, 62, 61, 126]⟩ : ByteArray)) = some r := h
  clear h
  obtain rfl := Option.some.inj H
  go_enter Tryz.func15, Tryz.ntmps15
  go_wp2
  go_ret
  exact ⟨bkF, bkD⟩
/-! ### scalar_Monads: function 20 -/
def scalar_Monads.f  : Option (ByteArray) := some (⟨#[45, 126, 42]⟩ : ByteArray)
set_option maxHeartbeats 8000000 in
set_option maxRecDepth 100000 in
theorem scalar_Monads.calls  (r : ByteArray) (w : World) (h : scalar_Monads.f  = some r) :
    Calls Tryz.prog 20 #[] w fun e w' => e = .returned (.string r) ∧ Drawn0 w w' := by
  have H : (some (⟨#[45, 126, 42]⟩ : ByteArray)) = some r := h
  clear h
  obtain rfl := Option.some.inj H
  go_enter Tryz.func20, Tryz.ntmps20
  go_wp2
  go_ret
  exact ⟨bkF, bkD⟩
end Go.Proofs.YtaidmohjnbibiaaGreatDoor.SC
end
