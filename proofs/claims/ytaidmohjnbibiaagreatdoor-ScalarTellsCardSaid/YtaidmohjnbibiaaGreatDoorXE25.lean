/- What the law leans on, part 26: declarations of several texts of ours, in their order. -/
import Derived.Test.YtaidmohjnbibiaaGreatDoorXE22
import Derived.Test.YtaidmohjnbibiaaGreatDoorXE23
import Derived.Test.YtaidmohjnbibiaaGreatDoorXE24
section
namespace Go.Proofs.YtaidmohjnbibiaaGreatDoor.L
open Go.RowKit Go.Proofs.YtaidmohjnbibiaaGreatDoorW.PrintWords Go.Proofs.YtaidmohjnbibiaaGreatDoorW.PrintLast Go.Proofs.YtaidmohjnbibiaaGreatDoorW.PrintMore Go.Proofs.YtaidmohjnbibiaaGreatDoor.B Go.Proofs.YtaidmohjnbibiaaGreatDoor.K
attribute [local go_sem] max2_int min2_int max_two min_two max_three min_three max_four min_four
set_option linter.unusedVariables false
set_option linter.unusedSimpArgs false
/-! ### num_Neg: function 40 -/
def num_Neg.f (k : Nat) (a0 : ByteArray) : Option (ByteArray) := (Go.Proofs.YtaidmohjnbibiaaGreatDoor.K.num_May.f a0).bind fun t207 => (if t207 = true then ((Go.Proofs.YtaidmohjnbibiaaGreatDoor.K.num_read.f k a0).bind fun bt208 => ((Go.Proofs.YtaidmohjnbibiaaGreatDoor.K.num_whole_turned.f bt208.1 bt208.2).bind fun bt212 => ((Hd.wtext.f bt212.1 bt212.2).bind fun t216 => (some t216)))) else (some (⟨#[]⟩ : ByteArray)))
set_option maxHeartbeats 8000000 in
set_option maxRecDepth 100000 in
theorem num_Neg.calls (k : Nat) (a0 : ByteArray) (r : ByteArray) (w : World) (hG : Hd.GL w) (h : num_Neg.f k a0 = some r) :
    Calls Tryz.prog 40 #[.string a0] w fun e w' => e = .returned (.string r) ∧ Below w.heap.size w w' := by
  have HGL := Aside0.mk hG
  clear hG
  have HB := Aside0.mk (Below.refl w.heap.size w)
  have H : ((Go.Proofs.YtaidmohjnbibiaaGreatDoor.K.num_May.f a0).bind fun t207 => (if t207 = true then ((Go.Proofs.YtaidmohjnbibiaaGreatDoor.K.num_read.f k a0).bind fun bt208 => ((Go.Proofs.YtaidmohjnbibiaaGreatDoor.K.num_whole_turned.f bt208.1 bt208.2).bind fun bt212 => ((Hd.wtext.f bt212.1 bt212.2).bind fun t216 => (some t216)))) else (some (⟨#[]⟩ : ByteArray)))) = some r := h
  clear h
  obtain ⟨t207, A20, H⟩ := Option.bind_eq_some_iff.mp H
  try dsimp only at H
  have A2 := Aside0.mk A20
  clear A20
  by_cases c3 : t207 = true
  · subst c3
    rw [if_pos rfl] at H
    obtain ⟨⟨t208, t211⟩, A40, H⟩ := Option.bind_eq_some_iff.mp H
    try dsimp only at H
    have A4 := Aside0.mk A40
    clear A40
    obtain ⟨⟨t212, t215⟩, A50, H⟩ := Option.bind_eq_some_iff.mp H
    try dsimp only at H
    have A5 := Aside0.mk A50
    clear A50
    obtain ⟨t216, A60, H⟩ := Option.bind_eq_some_iff.mp H
    try dsimp only at H
    have A6 := Aside0.mk A60
    clear A60
    obtain rfl := Option.some.inj H
    go_enter Tryz.func40, Tryz.ntmps40
    go_wp2_with (first | ((with_reducible refine gate_callee (f := 10) rfl ?_); refine goesL_ (some 4) rfl rfl Tryz.func10 (by kernel_rfl) rfl #[.string a0] rfl bkA ?_; (with_reducible refine (Go.Proofs.YtaidmohjnbibiaaGreatDoor.K.num_May.calls a0 true _ A2.out).mono ?_); rintro e w7 ⟨rfl, hb⟩; refine ⟨_, rfl, ?_⟩; replace HB := bkS hb; clear hb; (try clear hb2); (try clear hk); (try clear hi)) | ((with_reducible refine gate_callee (f := 38) rfl ?_); refine goesL_ (some 7) rfl rfl Tryz.func38 (by kernel_rfl) rfl #[.string a0] rfl bkA ?_; (with_reducible refine (Go.Proofs.YtaidmohjnbibiaaGreatDoor.K.num_read.calls k a0 t208 t211 _ A4.out).mono ?_); rintro e w8 ⟨v209, rfl, ho0, hb⟩; refine ⟨_, rfl, ?_⟩; have n0_ := Aside0.mk (Kd.V_lower (Kd.V_mono (ok' := fun k_ => True) ho0 (fun k_ hk_ => trivial)) (below_size bkB)); have n1_ := Aside0.mk (below_step bkB hb); clear HB; have HO210 := n0_; have HB := n1_; clear n0_ n1_; (try clear hb); (try clear hb2); (try clear hk); (try clear hi); (try clear ho0); obtain ⟨Ao9, co9, eo9⟩ := Kd.V_slice HO210.out; subst eo9) | ((with_reducible refine gate_callee (f := 39) rfl ?_); refine goesL_ (some 8) rfl rfl Tryz.func39 (by kernel_rfl) rfl #[.agg #[.slice Ao9 t208.length co9, .bool t211]] rfl bkA ?_; (with_reducible refine (Go.Proofs.YtaidmohjnbibiaaGreatDoor.K.num_whole_turned.calls (fun k_ => True) _ _ t208 t211 t212 t215 _ ?side1 A5.out).mono ?_); (case side1 => exact HO210.out); rintro e w10 ⟨v213, rfl, ho0, hb⟩; refine ⟨_, rfl, ?_⟩; have n0_ := Aside0.mk (Kd.V_below (by (with_reducible repeat (first | apply Kd.V_alloc | apply Kd.V_drewN | apply Kd.V_drew)); exact HO210.out) hb); have n1_ := Aside0.mk (Kd.V_lower (Kd.V_mono (ok' := fun k_ => True) ho0 (fun k_ hk_ => trivial)) (below_size bkB)); have n2_ := Aside0.mk (below_step bkB hb); clear HO210; clear HB; have HO210 := n0_; have HO214 := n1_; have HB := n2_; clear n0_ n1_ n2_; (try clear hb); (try clear hb2); (try clear hk); (try clear hi); (try clear ho0); obtain ⟨Ao11, co11, eo11⟩ := Kd.V_slice HO214.out; subst eo11) | ((with_reducible refine gate_callee (f := 71) rfl ?_); refine goesL_ (some 9) rfl rfl Tryz.func71 (by kernel_rfl) rfl #[.agg #[.slice Ao11 t212.length co11, .bool t215]] rfl bkA ?_; (with_reducible refine (Hd.wtext.calls _ _ t212 t215 t216 _ ?side1 ?side2 ?side3 A6.out).mono ?_); (case side1 => repeat (first | exact (Kd.V_reads' HO214.out).2.2 | (with_reducible refine Kd.C_alloc ?_ _) | (with_reducible refine Kd.C_drewN ?_ _) | (with_reducible refine Kd.C_drew ?_))); (case side2 => exact (Kd.V_reads' HO214.out).2.1); (case side3 => exact Hd.GL.below HGL.out bkB); rintro e w12 ⟨rfl, hb⟩; refine ⟨_, rfl, ?_⟩; have n0_ := Aside0.mk (Kd.V_below (by (with_reducible repeat (first | apply Kd.V_alloc | apply Kd.V_drewN | apply Kd.V_drew)); exact HO210.out) hb); have n1_ := Aside0.mk (Kd.V_below (by (with_reducible repeat (first | apply Kd.V_alloc | apply Kd.V_drewN | apply Kd.V_drew)); exact HO214.out) hb); have n2_ := Aside0.mk (below_step bkB hb); clear HO210; clear HO214; clear HB; have HO210 := n0_; have HO214 := n1_; have HB := n2_; clear n0_ n1_ n2_; (try clear hb); (try clear hb2); (try clear hk); (try clear hi)))
    go_ret
    exact ⟨bkE, bkB⟩
  · replace c3 := Bool.eq_false_iff.mpr c3
    subst c3
    rw [if_neg Bool.false_ne_true] at H
    obtain rfl := Option.some.inj H
    go_enter Tryz.func40, Tryz.ntmps40
    go_wp2_with (first | ((with_reducible refine gate_callee (f := 10) rfl ?_); refine goesL_ (some 4) rfl rfl Tryz.func10 (by kernel_rfl) rfl #[.string a0] rfl bkA ?_; (with_reducible refine (Go.Proofs.YtaidmohjnbibiaaGreatDoor.K.num_May.calls a0 false _ A2.out).mono ?_); rintro e w13 ⟨rfl, hb⟩; refine ⟨_, rfl, ?_⟩; replace HB := bkS hb; clear hb; (try clear hb2); (try clear hk); (try clear hi)))
    go_ret
    exact ⟨bkE, bkB⟩
end Go.Proofs.YtaidmohjnbibiaaGreatDoor.L
end
