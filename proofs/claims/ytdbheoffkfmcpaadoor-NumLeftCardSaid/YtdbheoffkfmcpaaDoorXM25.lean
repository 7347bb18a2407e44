/- What the law leans on, part 26: declarations of several texts of ours, in their order. -/
import Derived.Test.YtdbheoffkfmcpaaDoorProg
import Derived.Below
import Derived.Deep.Draws
import Derived.Deep.AppendLies
import Derived.Maps.AppendAt
import Derived.OwnWalk
import Derived.Laws.BytesArg
import Derived.Laws.MakeOwn
import Derived.Laws.OwnMore
import Derived.Deep.OwnRows
import Derived.Tactics
import Derived.Lib.ConvBytes
import Derived.Laws.Slices
import Derived.WalkKit
import Derived.KernelRfl
import Derived.RowKit3
import Derived.Deep.LoopGhost
import Derived.Deep.QuietTactic
import Derived.BigQuiet
import Derived.WideLaws
import Derived.Deep.DeepCutAuto
import Derived.Deep.CutBlock
import Derived.Deep.RegionHeld3
import Derived.Laws.Rows
import Derived.Lib.AppendStr
import Derived.ArgAppend
import Derived.Laws.IdiomCopy
import Derived.OrdersHeld
import Derived.Laws.BitsLemmas
import Derived.RowKit
import Derived.Test.YtdbheoffkfmcpaaDoorXM0
import Derived.Test.YtdbheoffkfmcpaaDoorXM1
import Derived.Test.YtdbheoffkfmcpaaDoorXM23
import Derived.Test.YtdbheoffkfmcpaaDoorXM2
import Derived.Test.YtdbheoffkfmcpaaDoorXM8
import Derived.Test.YtdbheoffkfmcpaaDoorXM20
import Derived.Test.YtdbheoffkfmcpaaDoorXM24
section
namespace Go.Proofs.YtdbheoffkfmcpaaDoor.LNumLeft
open Go.RowKit Go.Proofs.YtdbheoffkfmcpaaDoorW.PrintWords Go.Proofs.YtdbheoffkfmcpaaDoorW.PrintLast Go.Proofs.YtdbheoffkfmcpaaDoorW.PrintMore Go.Proofs.YtdbheoffkfmcpaaDoor.B Go.Proofs.YtdbheoffkfmcpaaDoor.K Go.Proofs.YtdbheoffkfmcpaaDoor.L Go.Proofs.YtdbheoffkfmcpaaDoor.M
attribute [local go_sem] max2_int min2_int max_two min_two max_three min_three max_four min_four
set_option linter.unusedVariables false
set_option linter.unusedSimpArgs false
/-! ### reredoslaw01_few: function 31 -/
def reredoslaw01_few.f (a0 : ByteArray) (a1 : ByteArray) : Option (Bool) := if (a0.size : Int) ≤ 200 then (some (decide ((a1.size : Int) ≤ 200))) else (some false)
set_option maxHeartbeats 8000000 in
set_option maxRecDepth 100000 in
theorem reredoslaw01_few.calls (a0 : ByteArray) (a1 : ByteArray) (r : Bool) (w : World) (h : reredoslaw01_few.f a0 a1 = some r) :
    Calls Tryd.prog 31 #[.string a0, .string a1] w fun e w' => e = .returned (.bool r) ∧ Drawn0 w w' := by
  have H : (if (a0.size : Int) ≤ 200 then (some (decide ((a1.size : Int) ≤ 200))) else (some false)) = some r := h
  clear h
  by_cases c3 : (a0.size : Int) ≤ 200
  · rw [if_pos c3] at H
    have c3b0 : decide ((a0.size : Int) ≤ 200) = true := decide_eq_true c3
    have c3b1 : decide (a0.size ≤ 200) = true := decide_eq_true (by omega)
    clear c3
    obtain rfl := Option.some.inj H
    go_enter Tryd.func31, Tryd.ntmps31
    go_wp2
    go_ret
    exact ⟨by first | rfl | (simp; done) | (simp [*]; done), by repeat (first | exact Drawn0.refl _ | apply Drawn0.step)⟩
  · rw [if_neg c3] at H
    have c3b0 : decide ((a0.size : Int) ≤ 200) = false := decide_eq_false c3
    have c3b1 : decide (a0.size ≤ 200) = false := decide_eq_false (by omega)
    clear c3
    obtain rfl := Option.some.inj H
    go_enter Tryd.func31, Tryd.ntmps31
    go_wp2
    go_ret
    exact ⟨by first | rfl | (simp; done) | (simp [*]; done), by repeat (first | exact Drawn0.refl _ | apply Drawn0.step)⟩
/-! ### reredoslaw01_NumLeft: function 10 -/
mutual
def reredoslaw01_NumLeft.j0 : Nat → ByteArray → ByteArray → Bool → Bool → Option (Bool)
  | 0, _, _, _, _ => none
  | k + 1, x0, x1, x5, x29 => if x29 = true then (some x5) else ((M.num_Div.f k x0 x1).bind fun bt105 => ((M.num_Mod.f k x0 x1).bind fun bt107 => (if x1.toList = ([48] : List UInt8) then (if x5 = true then (if bt105.2 = 5 then (some (bt107.2 == 5)) else (some false)) else (some false)) else (if bt105.2 = 0 then ((L.num_Mul.f k bt105.1 x1).bind fun bt109 => ((L.num_Add.f k bt109.1 bt107.1).bind fun bt111 => ((L.num_Cmp.f k bt107.1 (⟨#[48]⟩ : ByteArray)).bind fun t113 => (if t113 ≥ 0 then ((L.num_Cmp.f k bt107.1 x1).bind fun t114 => (reredoslaw01_NumLeft.j1 k x0 x1 x5 bt107.1 bt107.2 bt109.2 bt111.1 bt111.2 (decide (t114 < 0)))) else (reredoslaw01_NumLeft.j1 k x0 x1 x5 bt107.1 bt107.2 bt109.2 bt111.1 bt111.2 false))))) else (if x5 = true then (some (bt105.2 == 8)) else (some false))))))
def reredoslaw01_NumLeft.j1 : Nat → ByteArray → ByteArray → Bool → ByteArray → Int → Int → ByteArray → Int → Bool → Option (Bool)
  | 0, _, _, _, _, _, _, _, _, _ => none
  | k + 1, x0, x1, x5, x8, x9, x11, x12, x13, x14 => (Go.Proofs.YtdbheoffkfmcpaaDoor.K.num_Sign.f k x1).bind fun t115 => (if t115 < 0 then ((L.num_Cmp.f k x8 (⟨#[48]⟩ : ByteArray)).bind fun t116 => (if t116 ≤ 0 then ((L.num_Cmp.f k x8 x1).bind fun t117 => (if x5 = true then (if x9 = 0 then (if x11 = 0 then (if x13 = 0 then (if x12.toList = x0.toList then (some (decide (t117 > 0))) else (some false)) else (some false)) else (some (decide (t117 > 0)))) else (some false)) else (some false))) else (if x5 = true then (if x9 = 0 then (if x11 = 0 then (if x13 = 0 then (if x12.toList = x0.toList then (some false) else (some false)) else (some false)) else (some false)) else (some false)) else (some false)))) else (if x5 = true then (if x9 = 0 then (if x11 = 0 then (if x13 = 0 then (if x12.toList = x0.toList then (some x14) else (some false)) else (some false)) else (some x14)) else (some false)) else (some false)))
end
def reredoslaw01_NumLeft.f (k : Nat) (a0 : ByteArray) (a1 : ByteArray) : Option (Bool) := (M.reredoslaw01_shown.f k).bind fun t101 => ((reredoslaw01_few.f a0 a1).bind fun t102 => (if t102 = true then ((Go.Proofs.YtdbheoffkfmcpaaDoor.K.num_May.f a0).bind fun t103 => (if t103 = true then ((Go.Proofs.YtdbheoffkfmcpaaDoor.K.num_May.f a1).bind fun t104 => (reredoslaw01_NumLeft.j0 k a0 a1 t101 (!t104))) else (reredoslaw01_NumLeft.j0 k a0 a1 t101 true))) else (reredoslaw01_NumLeft.j0 k a0 a1 t101 true)))
theorem reredoslaw01_NumLeft.mono_l : ∀ k, (∀ y0 y1 y2 y3, LeO (reredoslaw01_NumLeft.j0 k y0 y1 y2 y3) (reredoslaw01_NumLeft.j0 (k + 1) y0 y1 y2 y3)) ∧ (∀ y0 y1 y2 y3 y4 y5 y6 y7 y8, LeO (reredoslaw01_NumLeft.j1 k y0 y1 y2 y3 y4 y5 y6 y7 y8) (reredoslaw01_NumLeft.j1 (k + 1) y0 y1 y2 y3 y4 y5 y6 y7 y8))
  | 0 => ⟨fun _ _ _ _ r h => by simp [reredoslaw01_NumLeft.j0] at h, fun _ _ _ _ _ _ _ _ _ r h => by simp [reredoslaw01_NumLeft.j1] at h⟩
  | k + 1 => by
    obtain ⟨ih0, ih1⟩ := reredoslaw01_NumLeft.mono_l k
    refine ⟨?_, ?_⟩
    · intro y0 y1 y2 y3
      unfold reredoslaw01_NumLeft.j0
      repeat' first
      | (with_reducible exact ih0 _ _ _ _)
      | (with_reducible exact ih1 _ _ _ _ _ _ _ _ _)
      | (with_reducible exact Go.Proofs.YtdbheoffkfmcpaaDoor.K.num_Sign.mono _ _)
      | (with_reducible exact L.num_Add.mono _ _ _)
      | (with_reducible exact L.num_Cmp.mono _ _ _)
      | (with_reducible exact L.num_Mul.mono _ _ _)
      | (with_reducible exact M.num_Div.mono _ _ _)
      | (with_reducible exact M.num_Mod.mono _ _ _)
      | (with_reducible exact M.reredoslaw01_shown.mono _)
      | (with_reducible exact LeO.refl _)
      | (with_reducible exact LeO.none _)
      | (with_reducible refine LeO.ite ?_ ?_)
      | (with_reducible refine LeO.bind ?_ (fun _ => ?_))
      | exact ih0 _ _ _ _
      | exact ih1 _ _ _ _ _ _ _ _ _
      | exact Go.Proofs.YtdbheoffkfmcpaaDoor.K.num_Sign.mono _ _
      | exact L.num_Add.mono _ _ _
      | exact L.num_Cmp.mono _ _ _
      | exact L.num_Mul.mono _ _ _
      | exact M.num_Div.mono _ _ _
      | exact M.num_Mod.mono _ _ _
      | exact M.reredoslaw01_shown.mono _
      | exact LeO.none _
      | refine LeO.ite ?_ ?_
      | refine LeO.bind ?_ (fun _ => ?_)
    · intro y0 y1 y2 y3 y4 y5 y6 y7 y8
      unfold reredoslaw01_NumLeft.j1
      repeat' first
      | (with_reducible exact ih0 _ _ _ _)
      | (with_reducible exact ih1 _ _ _ _ _ _ _ _ _)
      | (with_reducible exact Go.Proofs.YtdbheoffkfmcpaaDoor.K.num_Sign.mono _ _)
      | (with_reducible exact L.num_Add.mono _ _ _)
      | (with_reducible exact L.num_Cmp.mono _ _ _)
      | (with_reducible exact L.num_Mul.mono _ _ _)
      | (with_reducible exact M.num_Div.mono _ _ _)
      | (with_reducible exact M.num_Mod.mono _ _ _)
      | (with_reducible exact M.reredoslaw01_shown.mono _)
      | (with_reducible exact LeO.refl _)
      | (with_reducible exact LeO.none _)
      | (with_reducible refine LeO.ite ?_ ?_)
      | (with_reducible refine LeO.bind ?_ (fun _ => ?_))
      | exact ih0 _ _ _ _
      | exact ih1 _ _ _ _ _ _ _ _ _
      | exact Go.Proofs.YtdbheoffkfmcpaaDoor.K.num_Sign.mono _ _
      | exact L.num_Add.mono _ _ _
      | exact L.num_Cmp.mono _ _ _
      | exact L.num_Mul.mono _ _ _
      | exact M.num_Div.mono _ _ _
      | exact M.num_Mod.mono _ _ _
      | exact M.reredoslaw01_shown.mono _
      | exact LeO.none _
      | refine LeO.ite ?_ ?_
      | refine LeO.bind ?_ (fun _ => ?_)
theorem reredoslaw01_NumLeft.mono : ∀ a0 a1 k, LeO (reredoslaw01_NumLeft.f k a0 a1) (reredoslaw01_NumLeft.f (k + 1) a0 a1) := by
  intro a0 a1 k
  obtain ⟨ih0, ih1⟩ := reredoslaw01_NumLeft.mono_l k
  unfold reredoslaw01_NumLeft.f
  repeat' first
      | (with_reducible exact ih0 _ _ _ _)
      | (with_reducible exact ih1 _ _ _ _ _ _ _ _ _)
      | (with_reducible exact Go.Proofs.YtdbheoffkfmcpaaDoor.K.num_Sign.mono _ _)
      | (with_reducible exact L.num_Add.mono _ _ _)
      | (with_reducible exact L.num_Cmp.mono _ _ _)
      | (with_reducible exact L.num_Mul.mono _ _ _)
      | (with_reducible exact M.num_Div.mono _ _ _)
      | (with_reducible exact M.num_Mod.mono _ _ _)
      | (with_reducible exact M.reredoslaw01_shown.mono _)
      | (with_reducible exact LeO.refl _)
      | (with_reducible exact LeO.none _)
      | (with_reducible refine LeO.ite ?_ ?_)
      | (with_reducible refine LeO.bind ?_ (fun _ => ?_))
      | exact ih0 _ _ _ _
      | exact ih1 _ _ _ _ _ _ _ _ _
      | exact Go.Proofs.YtdbheoffkfmcpaaDoor.K.num_Sign.mono _ _
      | exact L.num_Add.mono _ _ _
      | exact L.num_Cmp.mono _ _ _
      | exact L.num_Mul.mono _ _ _
      | exact M.num_Div.mono _ _ _
      | exact M.num_Mod.mono _ _ _
      | exact M.reredoslaw01_shown.mono _
      | exact LeO.none _
      | refine LeO.ite ?_ ?_
      | refine LeO.bind ?_ (fun _ => ?_)
set_option maxHeartbeats 8000000 in
set_option maxRecDepth 100000 in
theorem reredoslaw01_NumLeft.calls (k : Nat) (a0 : ByteArray) (a1 : ByteArray) (r : Bool) (w : World) (hG : Hd.GL w) (h : reredoslaw01_NumLeft.f k a0 a1 = some r) :
    Calls Tryd.prog 10 #[.string a0, .string a1] w fun e w' => e = .returned (.bool r) ∧ Below w.heap.size w w' := by
  have HGL := Aside0.mk hG
  clear hG
  have HB := Aside0.mk (Below.refl w.heap.size w)
  have H : ((M.reredoslaw01_shown.f k).bind fun t101 => ((reredoslaw01_few.f a0 a1).bind fun t102 => (if t102 = true then ((Go.Proofs.YtdbheoffkfmcpaaDoor.K.num_May.f a0).bind fun t103 => (if t103 = true then ((Go.Proofs.YtdbheoffkfmcpaaDoor.K.num_May.f a1).bind fun t104 => (reredoslaw01_NumLeft.j0 k a0 a1 t101 (!t104))) else (reredoslaw01_NumLeft.j0 k a0 a1 t101 true))) else (reredoslaw01_NumLeft.j0 k a0 a1 t101 true)))) = some r := h
  clear h
  replace H := Option.bind_eq_some_iff.mp H
  obtain ⟨t101, A30, H⟩ := H
  replace H : ((reredoslaw01_few.f a0 a1).bind fun t102 => (if t102 = true then ((Go.Proofs.YtdbheoffkfmcpaaDoor.K.num_May.f a0).bind fun t103 => (if t103 = true then ((Go.Proofs.YtdbheoffkfmcpaaDoor.K.num_May.f a1).bind fun t104 => (reredoslaw01_NumLeft.j0 k a0 a1 t101 (!t104))) else (reredoslaw01_NumLeft.j0 k a0 a1 t101 true))) else (reredoslaw01_NumLeft.j0 k a0 a1 t101 true))) = some r := H
  have A3 := Aside0.mk A30
  clear A30
  have HC4 := Aside0.mk H
  clear H
  go_enter Tryd.func10, Tryd.ntmps10
  go_upto_region 2 with (first | ((with_reducible refine gate_callee (f := 30) rfl ?_); refine goesL_ (some 15) rfl rfl Tryd.func30 (by kernel_rfl) rfl #[] rfl (by (try simp only [List.map_toArray, List.map_cons, List.map_nil]); first | done | rfl | (simp only [List.length_drop, List.length_take]; rfl)) ?_; (with_reducible refine (M.reredoslaw01_shown.calls k  t101 _ ?side1 A3.out).mono ?_); (case side1 => refine Hd.GL.below HGL.out ?_; repeat (first | (with_reducible first | exact HB.out | apply below_alloc | apply pw_below_drewN | apply below_drew1) | exact HB.out)); rintro e w5 ⟨rfl, hb⟩; refine ⟨_, rfl, ?_⟩; have n0_ := Aside0.mk (below_step (by repeat (first | (with_reducible first | exact HB.out | apply below_alloc | apply pw_below_drewN | apply below_drew1) | exact HB.out)) hb); clear HB; have HB := n0_; clear n0_; (try clear hb); (try clear hb2); (try clear hk); (try clear hi)))
  (try simp only [Act.put, List.setIfInBounds_toArray, List.set_cons_zero, List.set_cons_succ])
  go_cut [29] (fun v29 wc => ∃ (kq : Nat) (x29_3 : Bool), v29 = .bool x29_3 ∧ Aside0 (reredoslaw01_NumLeft.j0 kq a0 a1 t101 x29_3 = some r) ∧ Aside0 (kq ≤ k) ∧ Aside0 (Below w.heap.size w wc))
  case first =>
    have H := HC4.out
    clear HC4
    replace H := Option.bind_eq_some_iff.mp H
    obtain ⟨t102, A60, H⟩ := H
    replace H : (if t102 = true then ((Go.Proofs.YtdbheoffkfmcpaaDoor.K.num_May.f a0).bind fun t103 => (if t103 = true then ((Go.Proofs.YtdbheoffkfmcpaaDoor.K.num_May.f a1).bind fun t104 => (reredoslaw01_NumLeft.j0 k a0 a1 t101 (!t104))) else (reredoslaw01_NumLeft.j0 k a0 a1 t101 true))) else (reredoslaw01_NumLeft.j0 k a0 a1 t101 true)) = some r := H
    have A6 := Aside0.mk A60
    clear A60
    by_cases c7 : t102 = true
    · subst c7
      have H1 : ((Go.Proofs.YtdbheoffkfmcpaaDoor.K.num_May.f a0).bind fun t103 => (if t103 = true then ((Go.Proofs.YtdbheoffkfmcpaaDoor.K.num_May.f a1).bind fun t104 => (reredoslaw01_NumLeft.j0 k a0 a1 t101 (!t104))) else (reredoslaw01_NumLeft.j0 k a0 a1 t101 true))) = some r := by rw [if_pos rfl] at H; exact H
      clear H
      have H := H1
      clear H1
      replace H := Option.bind_eq_some_iff.mp H
      obtain ⟨t103, A80, H⟩ := H
      replace H : (if t103 = true then ((Go.Proofs.YtdbheoffkfmcpaaDoor.K.num_May.f a1).bind fun t104 => (reredoslaw01_NumLeft.j0 k a0 a1 t101 (!t104))) else (reredoslaw01_NumLeft.j0 k a0 a1 t101 true)) = some r := H
      have A8 := Aside0.mk A80
      clear A80
      by_cases c9 : t103 = true
      · subst c9
        have H1 : ((Go.Proofs.YtdbheoffkfmcpaaDoor.K.num_May.f a1).bind fun t104 => (reredoslaw01_NumLeft.j0 k a0 a1 t101 (!t104))) = some r := by rw [if_pos rfl] at H; exact H
        clear H
        have H := H1
        clear H1
        replace H := Option.bind_eq_some_iff.mp H
        obtain ⟨t104, A100, H⟩ := H
        replace H : (reredoslaw01_NumLeft.j0 k a0 a1 t101 (!t104)) = some r := H
        have A10 := Aside0.mk A100
        clear A100
        have H' := Aside0.mk H
        clear H
        go_wp2_with (first | ((with_reducible refine gate_callee (f := 31) rfl ?_); refine goesL_ (some 18) rfl rfl Tryd.func31 (by kernel_rfl) rfl #[.string a0, .string a1] rfl (by (try simp only [List.map_toArray, List.map_cons, List.map_nil]); first | done | rfl | (simp only [List.length_drop, List.length_take]; rfl)) ?_; (with_reducible refine (reredoslaw01_few.calls a0 a1 true _ A6.out).mono ?_); rintro e w' ⟨rfl, ⟨nd, rfl⟩⟩; refine ⟨_, rfl, ?_⟩) | (go_at_call 33; (with_reducible refine (Go.Proofs.YtdbheoffkfmcpaaDoor.K.num_May.calls a0 true _ A8.out).mono ?_); rintro e w11 ⟨rfl, hb⟩; have n0_ := Aside0.mk (below_step (by repeat (first | (with_reducible first | exact HB.out | apply below_alloc | apply pw_below_drewN | apply below_drew1) | exact HB.out)) hb); clear HB; have HB := n0_; clear n0_; (try clear hb); (try clear hb2); (try clear hk); (try clear hi)) | (go_at_call 33; (with_reducible refine (Go.Proofs.YtdbheoffkfmcpaaDoor.K.num_May.calls a1 t104 _ A10.out).mono ?_); rintro e w12 ⟨rfl, hb⟩; have n0_ := Aside0.mk (below_step (by repeat (first | (with_reducible first | exact HB.out | apply below_alloc | apply pw_below_drewN | apply below_drew1) | exact HB.out)) hb); clear HB; have HB := n0_; clear n0_; (try clear hb); (try clear hb2); (try clear hk); (try clear hi)))
        go_meet
        case rel => exact ⟨_, (!t104), (by first | rfl | (simp; done) | (simp [*]; done)), H', ⟨by first | omega | exact Nat.le_refl _⟩, ⟨by repeat (first | (with_reducible first | exact HB.out | apply below_alloc | apply pw_below_drewN | apply below_drew1) | exact HB.out)⟩⟩
      · replace c9 := Bool.eq_false_iff.mpr c9
        subst c9
        have H1 : (reredoslaw01_NumLeft.j0 k a0 a1 t101 true) = some r := by rw [if_neg (show ¬ (false = true) by decide)] at H; exact H
        clear H
        have H := H1
        clear H1
        have H' := Aside0.mk H
        clear H
        go_wp2_with (first | ((with_reducible refine gate_callee (f := 31) rfl ?_); refine goesL_ (some 18) rfl rfl Tryd.func31 (by kernel_rfl) rfl #[.string a0, .string a1] rfl (by (try simp only [List.map_toArray, List.map_cons, List.map_nil]); first | done | rfl | (simp only [List.length_drop, List.length_take]; rfl)) ?_; (with_reducible refine (reredoslaw01_few.calls a0 a1 true _ A6.out).mono ?_); rintro e w' ⟨rfl, ⟨nd, rfl⟩⟩; refine ⟨_, rfl, ?_⟩) | (go_at_call 33; (with_reducible refine (Go.Proofs.YtdbheoffkfmcpaaDoor.K.num_May.calls a0 false _ A8.out).mono ?_); rintro e w13 ⟨rfl, hb⟩; have n0_ := Aside0.mk (below_step (by repeat (first | (with_reducible first | exact HB.out | apply below_alloc | apply pw_below_drewN | apply below_drew1) | exact HB.out)) hb); clear HB; have HB := n0_; clear n0_; (try clear hb); (try clear hb2); (try clear hk); (try clear hi)))
        go_meet
        case rel => exact ⟨_, (true), (by first | rfl | (simp; done) | (simp [*]; done)), H', ⟨by first | omega | exact Nat.le_refl _⟩, ⟨by repeat (first | (with_reducible first | exact HB.out | apply below_alloc | apply pw_below_drewN | apply below_drew1) | exact HB.out)⟩⟩
    · replace c7 := Bool.eq_false_iff.mpr c7
      subst c7
      have H1 : (reredoslaw01_NumLeft.j0 k a0 a1 t101 true) = some r := by rw [if_neg (show ¬ (false = true) by decide)] at H; exact H
      clear H
      have H := H1
      clear H1
      have H' := Aside0.mk H
      clear H
      go_wp2_with (first | ((with_reducible refine gate_callee (f := 31) rfl ?_); refine goesL_ (some 18) rfl rfl Tryd.func31 (by kernel_rfl) rfl #[.string a0, .string a1] rfl (by (try simp only [List.map_toArray, List.map_cons, List.map_nil]); first | done | rfl | (simp only [List.length_drop, List.length_take]; rfl)) ?_; (with_reducible refine (reredoslaw01_few.calls a0 a1 false _ A6.out).mono ?_); rintro e w' ⟨rfl, ⟨nd, rfl⟩⟩; refine ⟨_, rfl, ?_⟩))
      go_meet
      case rel => exact ⟨_, (true), (by first | rfl | (simp; done) | (simp [*]; done)), H', ⟨by first | omega | exact Nat.le_refl _⟩, ⟨by repeat (first | (with_reducible first | exact HB.out | apply below_alloc | apply pw_below_drewN | apply below_drew1) | exact HB.out)⟩⟩
  case rest =>
    clear HC4
    try clear c1
    try clear p2
    try clear c3
    try clear c7
    try clear c9
    try clear c10
    obtain ⟨kq, x29_3, rfl, HA, HJ3, HB⟩ := hcut
    cases kq with
    | zero => exact absurd HA.out (by simp [reredoslaw01_NumLeft.j0])
    | succ kj3 =>
      have H := HA.out
      clear HA
      simp only [reredoslaw01_NumLeft.j0] at H
      by_cases c14 : x29_3 = true
      · subst c14
        have H1 : (some t101) = some r := by rw [if_pos rfl] at H; exact H
        clear H
        have H := H1
        clear H1
        obtain rfl := Option.some.inj H
        go_wp2
        go_ret
        exact ⟨by first | rfl | (simp [errW_none, errW_some] <;> rfl) | (simp [*, errW_none, errW_some] <;> rfl), by repeat (first | (with_reducible first | exact HB.out | apply below_alloc | apply pw_below_drewN | apply below_drew1) | exact HB.out)⟩
      · replace c14 := Bool.eq_false_iff.mpr c14
        subst c14
        have H1 : ((M.num_Div.f kj3 a0 a1).bind fun bt105 => ((M.num_Mod.f kj3 a0 a1).bind fun bt107 => (if a1.toList = ([48] : List UInt8) then (if t101 = true then (if bt105.2 = 5 then (some (bt107.2 == 5)) else (some false)) else (some false)) else (if bt105.2 = 0 then ((L.num_Mul.f kj3 bt105.1 a1).bind fun bt109 => ((L.num_Add.f kj3 bt109.1 bt107.1).bind fun bt111 => ((L.num_Cmp.f kj3 bt107.1 (⟨#[48]⟩ : ByteArray)).bind fun t113 => (if t113 ≥ 0 then ((L.num_Cmp.f kj3 bt107.1 a1).bind fun t114 => (reredoslaw01_NumLeft.j1 kj3 a0 a1 t101 bt107.1 bt107.2 bt109.2 bt111.1 bt111.2 (decide (t114 < 0)))) else (reredoslaw01_NumLeft.j1 kj3 a0 a1 t101 bt107.1 bt107.2 bt109.2 bt111.1 bt111.2 false))))) else (if t101 = true then (some (bt105.2 == 8)) else (some false)))))) = some r := by rw [if_neg (show ¬ (false = true) by decide)] at H; exact H
        clear H
        have H := H1
        clear H1
        replace H := Option.bind_eq_some_iff.mp H
        obtain ⟨⟨t105, t106⟩, A150, H⟩ := H
        replace H : ((M.num_Mod.f kj3 a0 a1).bind fun bt107 => (if a1.toList = ([48] : List UInt8) then (if t101 = true then (if t106 = 5 then (some (bt107.2 == 5)) else (some false)) else (some false)) else (if t106 = 0 then ((L.num_Mul.f kj3 t105 a1).bind fun bt109 => ((L.num_Add.f kj3 bt109.1 bt107.1).bind fun bt111 => ((L.num_Cmp.f kj3 bt107.1 (⟨#[48]⟩ : ByteArray)).bind fun t113 => (if t113 ≥ 0 then ((L.num_Cmp.f kj3 bt107.1 a1).bind fun t114 => (reredoslaw01_NumLeft.j1 kj3 a0 a1 t101 bt107.1 bt107.2 bt109.2 bt111.1 bt111.2 (decide (t114 < 0)))) else (reredoslaw01_NumLeft.j1 kj3 a0 a1 t101 bt107.1 bt107.2 bt109.2 bt111.1 bt111.2 false))))) else (if t101 = true then (some (t106 == 8)) else (some false))))) = some r := H
        have A15 := Aside0.mk A150
        clear A150
        replace H := Option.bind_eq_some_iff.mp H
        obtain ⟨⟨t107, t108⟩, A160, H⟩ := H
        replace H : (if a1.toList = ([48] : List UInt8) then (if t101 = true then (if t106 = 5 then (some (t108 == 5)) else (some false)) else (some false)) else (if t106 = 0 then ((L.num_Mul.f kj3 t105 a1).bind fun bt109 => ((L.num_Add.f kj3 bt109.1 t107).bind fun bt111 => ((L.num_Cmp.f kj3 t107 (⟨#[48]⟩ : ByteArray)).bind fun t113 => (if t113 ≥ 0 then ((L.num_Cmp.f kj3 t107 a1).bind fun t114 => (reredoslaw01_NumLeft.j1 kj3 a0 a1 t101 t107 t108 bt109.2 bt111.1 bt111.2 (decide (t114 < 0)))) else (reredoslaw01_NumLeft.j1 kj3 a0 a1 t101 t107 t108 bt109.2 bt111.1 bt111.2 false))))) else (if t101 = true then (some (t106 == 8)) else (some false)))) = some r := H
        have A16 := Aside0.mk A160
        clear A160
        by_cases c17 : a1.toList = ([48] : List UInt8)
        · rw [if_pos c17] at H
          have c17b0 : (a1.toList == ([48] : List UInt8)) = true := beq_iff_eq.mpr c17
          have c17b1 : (a1.toList != ([48] : List UInt8)) = false := bne_eq_false_iff_eq.mpr c17
          clear c17
          by_cases c18 : t101 = true
          · subst c18
            have H1 : (if t106 = 5 then (some (t108 == 5)) else (some false)) = some r := by rw [if_pos rfl] at H; exact H
            clear H
            have H := H1
            clear H1
            by_cases c19 : t106 = 5
            · rw [if_pos c19] at H
              have c19b0 : (t106 == 5) = true := beq_iff_eq.mpr c19
              have c19b1 : (t106 != 5) = false := bne_eq_false_iff_eq.mpr c19
              clear c19
              obtain rfl := Option.some.inj H
              go_wp2_with (first | ((with_reducible refine gate_callee (f := 34) rfl ?_); refine goesL_ (some 34) rfl rfl Tryd.func34 (by kernel_rfl) rfl #[.string a0, .string a1] rfl (by (try simp only [List.map_toArray, List.map_cons, List.map_nil]); first | done | rfl | (simp only [List.length_drop, List.length_take]; rfl)) ?_; (with_reducible refine (M.num_Div.calls kj3 a0 a1 t105 t106 _ ?side1 A15.out).mono ?_); (case side1 => refine Hd.GL.below HGL.out ?_; repeat (first | (with_reducible first | exact HB.out | apply below_alloc | apply pw_below_drewN | apply below_drew1) | exact HB.out)); rintro e w20 ⟨rfl, hb⟩; refine ⟨_, rfl, ?_⟩; have n0_ := Aside0.mk (below_step (by repeat (first | (with_reducible first | exact HB.out | apply below_alloc | apply pw_below_drewN | apply below_drew1) | exact HB.out)) hb); clear HB; have HB := n0_; clear n0_; (try clear hb); (try clear hb2); (try clear hk); (try clear hi)) | ((with_reducible refine gate_callee (f := 35) rfl ?_); refine goesL_ (some 40) rfl rfl Tryd.func35 (by kernel_rfl) rfl #[.string a0, .string a1] rfl (by (try simp only [List.map_toArray, List.map_cons, List.map_nil]); first | done | rfl | (simp only [List.length_drop, List.length_take]; rfl)) ?_; (with_reducible refine (M.num_Mod.calls kj3 a0 a1 t107 t108 _ ?side1 A16.out).mono ?_); (case side1 => refine Hd.GL.below HGL.out ?_; repeat (first | (with_reducible first | exact HB.out | apply below_alloc | apply pw_below_drewN | apply below_drew1) | exact HB.out)); rintro e w21 ⟨rfl, hb⟩; refine ⟨_, rfl, ?_⟩; have n0_ := Aside0.mk (below_step (by repeat (first | (with_reducible first | exact HB.out | apply below_alloc | apply pw_below_drewN | apply below_drew1) | exact HB.out)) hb); clear HB; have HB := n0_; clear n0_; (try clear hb); (try clear hb2); (try clear hk); (try clear hi)))
              go_ret
              exact ⟨by first | rfl | (simp [errW_none, errW_some] <;> rfl) | (simp [*, errW_none, errW_some] <;> rfl), by repeat (first | (with_reducible first | exact HB.out | apply below_alloc | apply pw_below_drewN | apply below_drew1) | exact HB.out)⟩
            · rw [if_neg c19] at H
              have c19b0 : (t106 == 5) = false := beq_eq_false_iff_ne.mpr c19
              have c19b1 : (t106 != 5) = true := bne_iff_ne.mpr c19
              obtain rfl := Option.some.inj H
              go_wp2_with (first | ((with_reducible refine gate_callee (f := 34) rfl ?_); refine goesL_ (some 34) rfl rfl Tryd.func34 (by kernel_rfl) rfl #[.string a0, .string a1] rfl (by (try simp only [List.map_toArray, List.map_cons, List.map_nil]); first | done | rfl | (simp only [List.length_drop, List.length_take]; rfl)) ?_; (with_reducible refine (M.num_Div.calls kj3 a0 a1 t105 t106 _ ?side1 A15.out).mono ?_); (case side1 => refine Hd.GL.below HGL.out ?_; repeat (first | (with_reducible first | exact HB.out | apply below_alloc | apply pw_below_drewN | apply below_drew1) | exact HB.out)); rintro e w22 ⟨rfl, hb⟩; refine ⟨_, rfl, ?_⟩; have n0_ := Aside0.mk (below_step (by repeat (first | (with_reducible first | exact HB.out | apply below_alloc | apply pw_below_drewN | apply below_drew1) | exact HB.out)) hb); clear HB; have HB := n0_; clear n0_; (try clear hb); (try clear hb2); (try clear hk); (try clear hi)) | ((with_reducible refine gate_callee (f := 35) rfl ?_); refine goesL_ (some 40) rfl rfl Tryd.func35 (by kernel_rfl) rfl #[.string a0, .string a1] rfl (by (try simp only [List.map_toArray, List.map_cons, List.map_nil]); first | done | rfl | (simp only [List.length_drop, List.length_take]; rfl)) ?_; (with_reducible refine (M.num_Mod.calls kj3 a0 a1 t107 t108 _ ?side1 A16.out).mono ?_); (case side1 => refine Hd.GL.below HGL.out ?_; repeat (first | (with_reducible first | exact HB.out | apply below_alloc | apply pw_below_drewN | apply below_drew1) | exact HB.out)); rintro e w23 ⟨rfl, hb⟩; refine ⟨_, rfl, ?_⟩; have n0_ := Aside0.mk (below_step (by repeat (first | (with_reducible first | exact HB.out | apply below_alloc | apply pw_below_drewN | apply below_drew1) | exact HB.out)) hb); clear HB; have HB := n0_; clear n0_; (try clear hb); (try clear hb2); (try clear hk); (try clear hi)))
              go_ret
              exact ⟨by first | rfl | (simp [errW_none, errW_some] <;> rfl) | (simp [*, errW_none, errW_some] <;> rfl), by repeat (first | (with_reducible first | exact HB.out | apply below_alloc | apply pw_below_drewN | apply below_drew1) | exact HB.out)⟩
          · replace c18 := Bool.eq_false_iff.mpr c18
            subst c18
            have H1 : (some false) = some r := by rw [if_neg (show ¬ (false = true) by decide)] at H; exact H
            clear H
            have H := H1
            clear H1
            obtain rfl := Option.some.inj H
            go_wp2_with (first | ((with_reducible refine gate_callee (f := 34) rfl ?_); refine goesL_ (some 34) rfl rfl Tryd.func34 (by kernel_rfl) rfl #[.string a0, .string a1] rfl (by (try simp only [List.map_toArray, List.map_cons, List.map_nil]); first | done | rfl | (simp only [List.length_drop, List.length_take]; rfl)) ?_; (with_reducible refine (M.num_Div.calls kj3 a0 a1 t105 t106 _ ?side1 A15.out).mono ?_); (case side1 => refine Hd.GL.below HGL.out ?_; repeat (first | (with_reducible first | exact HB.out | apply below_alloc | apply pw_below_drewN | apply below_drew1) | exact HB.out)); rintro e w24 ⟨rfl, hb⟩; refine ⟨_, rfl, ?_⟩; have n0_ := Aside0.mk (below_step (by repeat (first | (with_reducible first | exact HB.out | apply below_alloc | apply pw_below_drewN | apply below_drew1) | exact HB.out)) hb); clear HB; have HB := n0_; clear n0_; (try clear hb); (try clear hb2); (try clear hk); (try clear hi)) | ((with_reducible refine gate_callee (f := 35) rfl ?_); refine goesL_ (some 40) rfl rfl Tryd.func35 (by kernel_rfl) rfl #[.string a0, .string a1] rfl (by (try simp only [List.map_toArray, List.map_cons, List.map_nil]); first | done | rfl | (simp only [List.length_drop, List.length_take]; rfl)) ?_; (with_reducible refine (M.num_Mod.calls kj3 a0 a1 t107 t108 _ ?side1 A16.out).mono ?_); (case side1 => refine Hd.GL.below HGL.out ?_; repeat (first | (with_reducible first | exact HB.out | apply below_alloc | apply pw_below_drewN | apply below_drew1) | exact HB.out)); rintro e w25 ⟨rfl, hb⟩; refine ⟨_, rfl, ?_⟩; have n0_ := Aside0.mk (below_step (by repeat (first | (with_reducible first | exact HB.out | apply below_alloc | apply pw_below_drewN | apply below_drew1) | exact HB.out)) hb); clear HB; have HB := n0_; clear n0_; (try clear hb); (try clear hb2); (try clear hk); (try clear hi)))
            go_ret
            exact ⟨by first | rfl | (simp [errW_none, errW_some] <;> rfl) | (simp [*, errW_none, errW_some] <;> rfl), by repeat (first | (with_reducible first | exact HB.out | apply below_alloc | apply pw_below_drewN | apply below_drew1) | exact HB.out)⟩
        · rw [if_neg c17] at H
          have c17b0 : (a1.toList == ([48] : List UInt8)) = false := beq_eq_false_iff_ne.mpr c17
          have c17b1 : (a1.toList != ([48] : List UInt8)) = true := bne_iff_ne.mpr c17
          by_cases c26 : t106 = 0
          · rw [if_pos c26] at H
            have c26b0 : (t106 == 0) = true := beq_iff_eq.mpr c26
            have c26b1 : (t106 != 0) = false := bne_eq_false_iff_eq.mpr c26
            clear c26
            replace H := Option.bind_eq_some_iff.mp H
            obtain ⟨⟨t109, t110⟩, A270, H⟩ := H
            replace H : ((L.num_Add.f kj3 t109 t107).bind fun bt111 => ((L.num_Cmp.f kj3 t107 (⟨#[48]⟩ : ByteArray)).bind fun t113 => (if t113 ≥ 0 then ((L.num_Cmp.f kj3 t107 a1).bind fun t114 => (reredoslaw01_NumLeft.j1 kj3 a0 a1 t101 t107 t108 t110 bt111.1 bt111.2 (decide (t114 < 0)))) else (reredoslaw01_NumLeft.j1 kj3 a0 a1 t101 t107 t108 t110 bt111.1 bt111.2 false)))) = some r := H
            have A27 := Aside0.mk A270
            clear A270
            replace H := Option.bind_eq_some_iff.mp H
            obtain ⟨⟨t111, t112⟩, A280, H⟩ := H
            replace H : ((L.num_Cmp.f kj3 t107 (⟨#[48]⟩ : ByteArray)).bind fun t113 => (if t113 ≥ 0 then ((L.num_Cmp.f kj3 t107 a1).bind fun t114 => (reredoslaw01_NumLeft.j1 kj3 a0 a1 t101 t107 t108 t110 t111 t112 (decide (t114 < 0)))) else (reredoslaw01_NumLeft.j1 kj3 a0 a1 t101 t107 t108 t110 t111 t112 false))) = some r := H
            have A28 := Aside0.mk A280
            clear A280
            have HC29 := Aside0.mk H
            clear H
            go_upto_region 12 with (first | ((with_reducible refine gate_callee (f := 34) rfl ?_); refine goesL_ (some 34) rfl rfl Tryd.func34 (by kernel_rfl) rfl #[.string a0, .string a1] rfl (by (try simp only [List.map_toArray, List.map_cons, List.map_nil]); first | done | rfl | (simp only [List.length_drop, List.length_take]; rfl)) ?_; (with_reducible refine (M.num_Div.calls kj3 a0 a1 t105 t106 _ ?side1 A15.out).mono ?_); (case side1 => refine Hd.GL.below HGL.out ?_; repeat (first | (with_reducible first | exact HB.out | apply below_alloc | apply pw_below_drewN | apply below_drew1) | exact HB.out)); rintro e w30 ⟨rfl, hb⟩; refine ⟨_, rfl, ?_⟩; have n0_ := Aside0.mk (below_step (by repeat (first | (with_reducible first | exact HB.out | apply below_alloc | apply pw_below_drewN | apply below_drew1) | exact HB.out)) hb); clear HB; have HB := n0_; clear n0_; (try clear hb); (try clear hb2); (try clear hk); (try clear hi)) | ((with_reducible refine gate_callee (f := 35) rfl ?_); refine goesL_ (some 40) rfl rfl Tryd.func35 (by kernel_rfl) rfl #[.string a0, .string a1] rfl (by (try simp only [List.map_toArray, List.map_cons, List.map_nil]); first | done | rfl | (simp only [List.length_drop, List.length_take]; rfl)) ?_; (with_reducible refine (M.num_Mod.calls kj3 a0 a1 t107 t108 _ ?side1 A16.out).mono ?_); (case side1 => refine Hd.GL.below HGL.out ?_; repeat (first | (with_reducible first | exact HB.out | apply below_alloc | apply pw_below_drewN | apply below_drew1) | exact HB.out)); rintro e w31 ⟨rfl, hb⟩; refine ⟨_, rfl, ?_⟩; have n0_ := Aside0.mk (below_step (by repeat (first | (with_reducible first | exact HB.out | apply below_alloc | apply pw_below_drewN | apply below_drew1) | exact HB.out)) hb); clear HB; have HB := n0_; clear n0_; (try clear hb); (try clear hb2); (try clear hk); (try clear hi)) | ((with_reducible refine gate_callee (f := 28) rfl ?_); refine goesL_ (some 64) rfl rfl Tryd.func28 (by kernel_rfl) rfl #[.string t105, .string a1] rfl (by (try simp only [List.map_toArray, List.map_cons, List.map_nil]); first | done | rfl | (simp only [List.length_drop, List.length_take]; rfl)) ?_; (with_reducible refine (L.num_Mul.calls kj3 t105 a1 t109 t110 _ ?side1 A27.out).mono ?_); (case side1 => refine Hd.GL.below HGL.out ?_; repeat (first | (with_reducible first | exact HB.out | apply below_alloc | apply pw_below_drewN | apply below_drew1) | exact HB.out)); rintro e w32 ⟨rfl, hb⟩; refine ⟨_, rfl, ?_⟩; have n0_ := Aside0.mk (below_step (by repeat (first | (with_reducible first | exact HB.out | apply below_alloc | apply pw_below_drewN | apply below_drew1) | exact HB.out)) hb); clear HB; have HB := n0_; clear n0_; (try clear hb); (try clear hb2); (try clear hk); (try clear hi)) | ((with_reducible refine gate_callee (f := 29) rfl ?_); refine goesL_ (some 70) rfl rfl Tryd.func29 (by kernel_rfl) rfl #[.string t109, .string t107] rfl (by (try simp only [List.map_toArray, List.map_cons, List.map_nil]); first | done | rfl | (simp only [List.length_drop, List.length_take]; rfl)) ?_; (with_reducible refine (L.num_Add.calls kj3 t109 t107 t111 t112 _ ?side1 A28.out).mono ?_); (case side1 => refine Hd.GL.below HGL.out ?_; repeat (first | (with_reducible first | exact HB.out | apply below_alloc | apply pw_below_drewN | apply below_drew1) | exact HB.out)); rintro e w33 ⟨rfl, hb⟩; refine ⟨_, rfl, ?_⟩; have n0_ := Aside0.mk (below_step (by repeat (first | (with_reducible first | exact HB.out | apply below_alloc | apply pw_below_drewN | apply below_drew1) | exact HB.out)) hb); clear HB; have HB := n0_; clear n0_; (try clear hb); (try clear hb2); (try clear hk); (try clear hi)))
            (try simp only [Act.put, List.setIfInBounds_toArray, List.set_cons_zero, List.set_cons_succ])
            go_cut [14] (fun v14 wc => ∃ (kq : Nat) (x14_28 : Bool), v14 = .bool x14_28 ∧ Aside0 (reredoslaw01_NumLeft.j1 kq a0 a1 t101 t107 t108 t110 t111 t112 x14_28 = some r) ∧ Aside0 (kq ≤ kj3) ∧ Aside0 (Below w.heap.size w wc))
            case first =>
              have H := HC29.out
              clear HC29
              replace H := Option.bind_eq_some_iff.mp H
              obtain ⟨t113, A340, H⟩ := H
              replace H : (if t113 ≥ 0 then ((L.num_Cmp.f kj3 t107 a1).bind fun t114 => (reredoslaw01_NumLeft.j1 kj3 a0 a1 t101 t107 t108 t110 t111 t112 (decide (t114 < 0)))) else (reredoslaw01_NumLeft.j1 kj3 a0 a1 t101 t107 t108 t110 t111 t112 false)) = some r := H
              have A34 := Aside0.mk A340
              clear A340
              by_cases c35 : t113 ≥ 0
              · rw [if_pos c35] at H
                have c35b0 : decide (0 ≤ t113) = true := decide_eq_true c35
                clear c35
                (first | rw [c35b0] | (simp only [i64_w, i32_w]; rw [c35b0]) | skip)
                replace H := Option.bind_eq_some_iff.mp H
                obtain ⟨t114, A360, H⟩ := H
                replace H : (reredoslaw01_NumLeft.j1 kj3 a0 a1 t101 t107 t108 t110 t111 t112 (decide (t114 < 0))) = some r := H
                have A36 := Aside0.mk A360
                clear A360
                have H' := Aside0.mk H
                clear H
                go_wp2_with (first | ((with_reducible refine gate_callee (f := 36) rfl ?_); refine goesL_ (some 74) rfl rfl Tryd.func36 (by kernel_rfl) rfl #[.string t107, .string (⟨#[48]⟩ : ByteArray)] rfl (by (try simp only [List.map_toArray, List.map_cons, List.map_nil]); first | done | rfl | (simp only [List.length_drop, List.length_take]; rfl)) ?_; (with_reducible refine (L.num_Cmp.calls kj3 t107 (⟨#[48]⟩ : ByteArray) t113 _ A34.out).mono ?_); rintro e w37 ⟨rfl, hb⟩; refine ⟨_, rfl, ?_⟩; have n0_ := Aside0.mk (below_step (by repeat (first | (with_reducible first | exact HB.out | apply below_alloc | apply pw_below_drewN | apply below_drew1) | exact HB.out)) hb); clear HB; have HB := n0_; clear n0_; (try clear hb); (try clear hb2); (try clear hk); (try clear hi)) | (go_at_call 36; (with_reducible refine (L.num_Cmp.calls kj3 t107 a1 t114 _ A36.out).mono ?_); rintro e w38 ⟨rfl, hb⟩; have n0_ := Aside0.mk (below_step (by repeat (first | (with_reducible first | exact HB.out | apply below_alloc | apply pw_below_drewN | apply below_drew1) | exact HB.out)) hb); clear HB; have HB := n0_; clear n0_; (try clear hb); (try clear hb2); (try clear hk); (try clear hi)))
                go_meet
                case rel => exact ⟨_, (decide (t114 < 0)), (by first | rfl | (simp; done) | (simp [*]; done)), H', ⟨by have := HJ3.out; first | omega | exact Nat.le_refl _⟩, ⟨by repeat (first | (with_reducible first | exact HB.out | apply below_alloc | apply pw_below_drewN | apply below_drew1) | exact HB.out)⟩⟩
              · rw [if_neg c35] at H
                have c35b0 : decide (0 ≤ t113) = false := decide_eq_false c35
                clear c35
                (first | rw [c35b0] | (simp only [i64_w, i32_w]; rw [c35b0]) | skip)
                have H' := Aside0.mk H
                clear H
                go_wp2_with (first | ((with_reducible refine gate_callee (f := 36) rfl ?_); refine goesL_ (some 74) rfl rfl Tryd.func36 (by kernel_rfl) rfl #[.string t107, .string (⟨#[48]⟩ : ByteArray)] rfl (by (try simp only [List.map_toArray, List.map_cons, List.map_nil]); first | done | rfl | (simp only [List.length_drop, List.length_take]; rfl)) ?_; (with_reducible refine (L.num_Cmp.calls kj3 t107 (⟨#[48]⟩ : ByteArray) t113 _ A34.out).mono ?_); rintro e w39 ⟨rfl, hb⟩; refine ⟨_, rfl, ?_⟩; have n0_ := Aside0.mk (below_step (by repeat (first | (with_reducible first | exact HB.out | apply below_alloc | apply pw_below_drewN | apply below_drew1) | exact HB.out)) hb); clear HB; have HB := n0_; clear n0_; (try clear hb); (try clear hb2); (try clear hk); (try clear hi)))
                go_meet
                case rel => exact ⟨_, (false), (by first | rfl | (simp; done) | (simp [*]; done)), H', ⟨by have := HJ3.out; first | omega | exact Nat.le_refl _⟩, ⟨by repeat (first | (with_reducible first | exact HB.out | apply below_alloc | apply pw_below_drewN | apply below_drew1) | exact HB.out)⟩⟩
            case rest =>
              clear HC29
              try clear c1
              try clear c2
              try clear p2
              try clear c3
              try clear c7
              try clear c9
              try clear c10
              try clear c14
              try clear c17
              try clear c17b0
              try clear c17b1
              try clear c18
              try clear c19
              try clear c19b0
              try clear c19b1
              try clear c26
              try clear c26b0
              try clear c26b1
              try clear c28
              try clear c29
              try clear c30
              try clear c31
              try clear c34
              try clear c35
              try clear c35b0
              try clear c36
              try clear p2
              obtain ⟨kq, x14_28, rfl, HA, HJ28, HB⟩ := hcut
              cases kq with
              | zero => exact absurd HA.out (by simp [reredoslaw01_NumLeft.j1])
              | succ kj28 =>
                have H := HA.out
                clear HA
                simp only [reredoslaw01_NumLeft.j1] at H
                replace H := Option.bind_eq_some_iff.mp H
                obtain ⟨t115, A400, H⟩ := H
                replace H : (if t115 < 0 then ((L.num_Cmp.f kj28 t107 (⟨#[48]⟩ : ByteArray)).bind fun t116 => (if t116 ≤ 0 then ((L.num_Cmp.f kj28 t107 a1).bind fun t117 => (if t101 = true then (if t108 = 0 then (if t110 = 0 then (if t112 = 0 then (if t111.toList = a0.toList then (some (decide (t117 > 0))) else (some false)) else (some false)) else (some (decide (t117 > 0)))) else (some false)) else (some false))) else (if t101 = true then (if t108 = 0 then (if t110 = 0 then (if t112 = 0 then (if t111.toList = a0.toList then (some false) else (some false)) else (some false)) else (some false)) else (some false)) else (some false)))) else (if t101 = true then (if t108 = 0 then (if t110 = 0 then (if t112 = 0 then (if t111.toList = a0.toList then (some x14_28) else (some false)) else (some false)) else (some x14_28)) else (some false)) else (some false))) = some r := H
                have A40 := Aside0.mk A400
                clear A400
                by_cases c41 : t115 < 0
                · rw [if_pos c41] at H
                  have c41b0 : decide (t115 < 0) = true := decide_eq_true c41
                  clear c41
                  replace H := Option.bind_eq_some_iff.mp H
                  obtain ⟨t116, A420, H⟩ := H
                  replace H : (if t116 ≤ 0 then ((L.num_Cmp.f kj28 t107 a1).bind fun t117 => (if t101 = true then (if t108 = 0 then (if t110 = 0 then (if t112 = 0 then (if t111.toList = a0.toList then (some (decide (t117 > 0))) else (some false)) else (some false)) else (some (decide (t117 > 0)))) else (some false)) else (some false))) else (if t101 = true then (if t108 = 0 then (if t110 = 0 then (if t112 = 0 then (if t111.toList = a0.toList then (some false) else (some false)) else (some false)) else (some false)) else (some false)) else (some false))) = some r := H
                  have A42 := Aside0.mk A420
                  clear A420
                  by_cases c43 : t116 ≤ 0
                  · rw [if_pos c43] at H
                    have c43b0 : decide (t116 ≤ 0) = true := decide_eq_true c43
                    clear c43
                    replace H := Option.bind_eq_some_iff.mp H
                    obtain ⟨t117, A440, H⟩ := H
                    replace H : (if t101 = true then (if t108 = 0 then (if t110 = 0 then (if t112 = 0 then (if t111.toList = a0.toList then (some (decide (t117 > 0))) else (some false)) else (some false)) else (some (decide (t117 > 0)))) else (some false)) else (some false)) = some r := H
                    have A44 := Aside0.mk A440
                    clear A440
                    by_cases c45 : t101 = true
                    · subst c45
                      have H1 : (if t108 = 0 then (if t110 = 0 then (if t112 = 0 then (if t111.toList = a0.toList then (some (decide (t117 > 0))) else (some false)) else (some false)) else (some (decide (t117 > 0)))) else (some false)) = some r := by rw [if_pos rfl] at H; exact H
                      clear H
                      have H := H1
                      clear H1
                      by_cases c46 : t108 = 0
                      · rw [if_pos c46] at H
                        have c46b0 : (t108 == 0) = true := beq_iff_eq.mpr c46
                        have c46b1 : (t108 != 0) = false := bne_eq_false_iff_eq.mpr c46
                        clear c46
                        by_cases c47 : t110 = 0
                        · rw [if_pos c47] at H
                          have c47b0 : (t110 == 0) = true := beq_iff_eq.mpr c47
                          have c47b1 : (t110 != 0) = false := bne_eq_false_iff_eq.mpr c47
                          clear c47
                          by_cases c48 : t112 = 0
                          · rw [if_pos c48] at H
                            have c48b0 : (t112 == 0) = true := beq_iff_eq.mpr c48
                            have c48b1 : (t112 != 0) = false := bne_eq_false_iff_eq.mpr c48
                            clear c48
                            by_cases c49 : t111.toList = a0.toList
                            · rw [if_pos c49] at H
                              have c49b0 : (t111.toList == a0.toList) = true := beq_iff_eq.mpr c49
                              have c49b1 : (t111.toList != a0.toList) = false := bne_eq_false_iff_eq.mpr c49
                              clear c49
                              obtain rfl := Option.some.inj H
                              go_wp2_with (first | ((with_reducible refine gate_callee (f := 37) rfl ?_); refine goesL_ (some 83) rfl rfl Tryd.func37 (by kernel_rfl) rfl #[.string a1] rfl (by (try simp only [List.map_toArray, List.map_cons, List.map_nil]); first | done | rfl | (simp only [List.length_drop, List.length_take]; rfl)) ?_; (with_reducible refine (Go.Proofs.YtdbheoffkfmcpaaDoor.K.num_Sign.calls kj28 a1 t115 _ A40.out).mono ?_); rintro e w50 ⟨rfl, hb⟩; refine ⟨_, rfl, ?_⟩; have n0_ := Aside0.mk (below_step (by repeat (first | (with_reducible first | exact HB.out | apply below_alloc | apply pw_below_drewN | apply below_drew1) | exact HB.out)) hb); clear HB; have HB := n0_; clear n0_; (try clear hb); (try clear hb2); (try clear hk); (try clear hi)) | ((with_reducible refine gate_callee (f := 36) rfl ?_); refine goesL_ (some 86) rfl rfl Tryd.func36 (by kernel_rfl) rfl #[.string t107, .string (⟨#[48]⟩ : ByteArray)] rfl (by (try simp only [List.map_toArray, List.map_cons, List.map_nil]); first | done | rfl | (simp only [List.length_drop, List.length_take]; rfl)) ?_; (with_reducible refine (L.num_Cmp.calls kj28 t107 (⟨#[48]⟩ : ByteArray) t116 _ A42.out).mono ?_); rintro e w51 ⟨rfl, hb⟩; refine ⟨_, rfl, ?_⟩; have n0_ := Aside0.mk (below_step (by repeat (first | (with_reducible first | exact HB.out | apply below_alloc | apply pw_below_drewN | apply below_drew1) | exact HB.out)) hb); clear HB; have HB := n0_; clear n0_; (try clear hb); (try clear hb2); (try clear hk); (try clear hi)) | (go_at_call 36; (with_reducible refine (L.num_Cmp.calls kj28 t107 a1 t117 _ A44.out).mono ?_); rintro e w52 ⟨rfl, hb⟩; have n0_ := Aside0.mk (below_step (by repeat (first | (with_reducible first | exact HB.out | apply below_alloc | apply pw_below_drewN | apply below_drew1) | exact HB.out)) hb); clear HB; have HB := n0_; clear n0_; (try clear hb); (try clear hb2); (try clear hk); (try clear hi)))
                              go_ret
                              exact ⟨by first | rfl | (simp [errW_none, errW_some] <;> rfl) | (simp [*, errW_none, errW_some] <;> rfl), by repeat (first | (with_reducible first | exact HB.out | apply below_alloc | apply pw_below_drewN | apply below_drew1) | exact HB.out)⟩
                            · rw [if_neg c49] at H
                              have c49b0 : (t111.toList == a0.toList) = false := beq_eq_false_iff_ne.mpr c49
                              have c49b1 : (t111.toList != a0.toList) = true := bne_iff_ne.mpr c49
                              obtain rfl := Option.some.inj H
                              go_wp2_with (first | ((with_reducible refine gate_callee (f := 37) rfl ?_); refine goesL_ (some 83) rfl rfl Tryd.func37 (by kernel_rfl) rfl #[.string a1] rfl (by (try simp only [List.map_toArray, List.map_cons, List.map_nil]); first | done | rfl | (simp only [List.length_drop, List.length_take]; rfl)) ?_; (with_reducible refine (Go.Proofs.YtdbheoffkfmcpaaDoor.K.num_Sign.calls kj28 a1 t115 _ A40.out).mono ?_); rintro e w53 ⟨rfl, hb⟩; refine ⟨_, rfl, ?_⟩; have n0_ := Aside0.mk (below_step (by repeat (first | (with_reducible first | exact HB.out | apply below_alloc | apply pw_below_drewN | apply below_drew1) | exact HB.out)) hb); clear HB; have HB := n0_; clear n0_; (try clear hb); (try clear hb2); (try clear hk); (try clear hi)) | ((with_reducible refine gate_callee (f := 36) rfl ?_); refine goesL_ (some 86) rfl rfl Tryd.func36 (by kernel_rfl) rfl #[.string t107, .string (⟨#[48]⟩ : ByteArray)] rfl (by (try simp only [List.map_toArray, List.map_cons, List.map_nil]); first | done | rfl | (simp only [List.length_drop, List.length_take]; rfl)) ?_; (with_reducible refine (L.num_Cmp.calls kj28 t107 (⟨#[48]⟩ : ByteArray) t116 _ A42.out).mono ?_); rintro e w54 ⟨rfl, hb⟩; refine ⟨_, rfl, ?_⟩; have n0_ := Aside0.mk (below_step (by repeat (first | (with_reducible first | exact HB.out | apply below_alloc | apply pw_below_drewN | apply below_drew1) | exact HB.out)) hb); clear HB; have HB := n0_; clear n0_; (try clear hb); (try clear hb2); (try clear hk); (try clear hi)) | (go_at_call 36; (with_reducible refine (L.num_Cmp.calls kj28 t107 a1 t117 _ A44.out).mono ?_); rintro e w55 ⟨rfl, hb⟩; have n0_ := Aside0.mk (below_step (by repeat (first | (with_reducible first | exact HB.out | apply below_alloc | apply pw_below_drewN | apply below_drew1) | exact HB.out)) hb); clear HB; have HB := n0_; clear n0_; (try clear hb); (try clear hb2); (try clear hk); (try clear hi)))
                              go_ret
                              exact ⟨by first | rfl | (simp [errW_none, errW_some] <;> rfl) | (simp [*, errW_none, errW_some] <;> rfl), by repeat (first | (with_reducible first | exact HB.out | apply below_alloc | apply pw_below_drewN | apply below_drew1) | exact HB.out)⟩
                          · rw [if_neg c48] at H
                            have c48b0 : (t112 == 0) = false := beq_eq_false_iff_ne.mpr c48
                            have c48b1 : (t112 != 0) = true := bne_iff_ne.mpr c48
                            obtain rfl := Option.some.inj H
                            go_wp2_with (first | ((with_reducible refine gate_callee (f := 37) rfl ?_); refine goesL_ (some 83) rfl rfl Tryd.func37 (by kernel_rfl) rfl #[.string a1] rfl (by (try simp only [List.map_toArray, List.map_cons, List.map_nil]); first | done | rfl | (simp only [List.length_drop, List.length_take]; rfl)) ?_; (with_reducible refine (Go.Proofs.YtdbheoffkfmcpaaDoor.K.num_Sign.calls kj28 a1 t115 _ A40.out).mono ?_); rintro e w56 ⟨rfl, hb⟩; refine ⟨_, rfl, ?_⟩; have n0_ := Aside0.mk (below_step (by repeat (first | (with_reducible first | exact HB.out | apply below_alloc | apply pw_below_drewN | apply below_drew1) | exact HB.out)) hb); clear HB; have HB := n0_; clear n0_; (try clear hb); (try clear hb2); (try clear hk); (try clear hi)) | ((with_reducible refine gate_callee (f := 36) rfl ?_); refine goesL_ (some 86) rfl rfl Tryd.func36 (by kernel_rfl) rfl #[.string t107, .string (⟨#[48]⟩ : ByteArray)] rfl (by (try simp only [List.map_toArray, List.map_cons, List.map_nil]); first | done | rfl | (simp only [List.length_drop, List.length_take]; rfl)) ?_; (with_reducible refine (L.num_Cmp.calls kj28 t107 (⟨#[48]⟩ : ByteArray) t116 _ A42.out).mono ?_); rintro e w57 ⟨rfl, hb⟩; refine ⟨_, rfl, ?_⟩; have n0_ := Aside0.mk (below_step (by repeat (first | (with_reducible first | exact HB.out | apply below_alloc | apply pw_below_drewN | apply below_drew1) | exact HB.out)) hb); clear HB; have HB := n0_; clear n0_; (try clear hb); (try clear hb2); (try clear hk); (try clear hi)) | (go_at_call 36; (with_reducible refine (L.num_Cmp.calls kj28 t107 a1 t117 _ A44.out).mono ?_); rintro e w58 ⟨rfl, hb⟩; have n0_ := Aside0.mk (below_step (by repeat (first | (with_reducible first | exact HB.out | apply below_alloc | apply pw_below_drewN | apply below_drew1) | exact HB.out)) hb); clear HB; have HB := n0_; clear n0_; (try clear hb); (try clear hb2); (try clear hk); (try clear hi)))
                            go_ret
                            exact ⟨by first | rfl | (simp [errW_none, errW_some] <;> rfl) | (simp [*, errW_none, errW_some] <;> rfl), by repeat (first | (with_reducible first | exact HB.out | apply below_alloc | apply pw_below_drewN | apply below_drew1) | exact HB.out)⟩
                        · rw [if_neg c47] at H
                          have c47b0 : (t110 == 0) = false := beq_eq_false_iff_ne.mpr c47
                          have c47b1 : (t110 != 0) = true := bne_iff_ne.mpr c47
                          obtain rfl := Option.some.inj H
                          go_wp2_with (first | ((with_reducible refine gate_callee (f := 37) rfl ?_); refine goesL_ (some 83) rfl rfl Tryd.func37 (by kernel_rfl) rfl #[.string a1] rfl (by (try simp only [List.map_toArray, List.map_cons, List.map_nil]); first | done | rfl | (simp only [List.length_drop, List.length_take]; rfl)) ?_; (with_reducible refine (Go.Proofs.YtdbheoffkfmcpaaDoor.K.num_Sign.calls kj28 a1 t115 _ A40.out).mono ?_); rintro e w59 ⟨rfl, hb⟩; refine ⟨_, rfl, ?_⟩; have n0_ := Aside0.mk (below_step (by repeat (first | (with_reducible first | exact HB.out | apply below_alloc | apply pw_below_drewN | apply below_drew1) | exact HB.out)) hb); clear HB; have HB := n0_; clear n0_; (try clear hb); (try clear hb2); (try clear hk); (try clear hi)) | ((with_reducible refine gate_callee (f := 36) rfl ?_); refine goesL_ (some 86) rfl rfl Tryd.func36 (by kernel_rfl) rfl #[.string t107, .string (⟨#[48]⟩ : ByteArray)] rfl (by (try simp only [List.map_toArray, List.map_cons, List.map_nil]); first | done | rfl | (simp only [List.length_drop, List.length_take]; rfl)) ?_; (with_reducible refine (L.num_Cmp.calls kj28 t107 (⟨#[48]⟩ : ByteArray) t116 _ A42.out).mono ?_); rintro e w60 ⟨rfl, hb⟩; refine ⟨_, rfl, ?_⟩; have n0_ := Aside0.mk (below_step (by repeat (first | (with_reducible first | exact HB.out | apply below_alloc | apply pw_below_drewN | apply below_drew1) | exact HB.out)) hb); clear HB; have HB := n0_; clear n0_; (try clear hb); (try clear hb2); (try clear hk); (try clear hi)) | (go_at_call 36; (with_reducible refine (L.num_Cmp.calls kj28 t107 a1 t117 _ A44.out).mono ?_); rintro e w61 ⟨rfl, hb⟩; have n0_ := Aside0.mk (below_step (by repeat (first | (with_reducible first | exact HB.out | apply below_alloc | apply pw_below_drewN | apply below_drew1) | exact HB.out)) hb); clear HB; have HB := n0_; clear n0_; (try clear hb); (try clear hb2); (try clear hk); (try clear hi)))
                          go_ret
                          exact ⟨by first | rfl | (simp [errW_none, errW_some] <;> rfl) | (simp [*, errW_none, errW_some] <;> rfl), by repeat (first | (with_reducible first | exact HB.out | apply below_alloc | apply pw_below_drewN | apply below_drew1) | exact HB.out)⟩
                      · rw [if_neg c46] at H
                        have c46b0 : (t108 == 0) = false := beq_eq_false_iff_ne.mpr c46
                        have c46b1 : (t108 != 0) = true := bne_iff_ne.mpr c46
                        obtain rfl := Option.some.inj H
                        go_wp2_with (first | ((with_reducible refine gate_callee (f := 37) rfl ?_); refine goesL_ (some 83) rfl rfl Tryd.func37 (by kernel_rfl) rfl #[.string a1] rfl (by (try simp only [List.map_toArray, List.map_cons, List.map_nil]); first | done | rfl | (simp only [List.length_drop, List.length_take]; rfl)) ?_; (with_reducible refine (Go.Proofs.YtdbheoffkfmcpaaDoor.K.num_Sign.calls kj28 a1 t115 _ A40.out).mono ?_); rintro e w62 ⟨rfl, hb⟩; refine ⟨_, rfl, ?_⟩; have n0_ := Aside0.mk (below_step (by repeat (first | (with_reducible first | exact HB.out | apply below_alloc | apply pw_below_drewN | apply below_drew1) | exact HB.out)) hb); clear HB; have HB := n0_; clear n0_; (try clear hb); (try clear hb2); (try clear hk); (try clear hi)) | ((with_reducible refine gate_callee (f := 36) rfl ?_); refine goesL_ (some 86) rfl rfl Tryd.func36 (by kernel_rfl) rfl #[.string t107, .string (⟨#[48]⟩ : ByteArray)] rfl (by (try simp only [List.map_toArray, List.map_cons, List.map_nil]); first | done | rfl | (simp only [List.length_drop, List.length_take]; rfl)) ?_; (with_reducible refine (L.num_Cmp.calls kj28 t107 (⟨#[48]⟩ : ByteArray) t116 _ A42.out).mono ?_); rintro e w63 ⟨rfl, hb⟩; refine ⟨_, rfl, ?_⟩; have n0_ := Aside0.mk (below_step (by repeat (first | (with_reducible first | exact HB.out | apply below_alloc | apply pw_below_drewN | apply below_drew1) | exact HB.out)) hb); clear HB; have HB := n0_; clear n0_; (try clear hb); (try clear hb2); (try clear hk); (try clear hi)) | (go_at_call 36; (with_reducible refine (L.num_Cmp.calls kj28 t107 a1 t117 _ A44.out).mono ?_); rintro e w64 ⟨rfl, hb⟩; have n0_ := Aside0.mk (below_step (by repeat (first | (with_reducible first | exact HB.out | apply below_alloc | apply pw_below_drewN | apply below_drew1) | exact HB.out)) hb); clear HB; have HB := n0_; clear n0_; (try clear hb); (try clear hb2); (try clear hk); (try clear hi)))
                        go_ret
                        exact ⟨by first | rfl | (simp [errW_none, errW_some] <;> rfl) | (simp [*, errW_none, errW_some] <;> rfl), by repeat (first | (with_reducible first | exact HB.out | apply below_alloc | apply pw_below_drewN | apply below_drew1) | exact HB.out)⟩
                    · replace c45 := Bool.eq_false_iff.mpr c45
                      subst c45
                      have H1 : (some false) = some r := by rw [if_neg (show ¬ (false = true) by decide)] at H; exact H
                      clear H
                      have H := H1
                      clear H1
                      obtain rfl := Option.some.inj H
                      go_wp2_with (first | ((with_reducible refine gate_callee (f := 37) rfl ?_); refine goesL_ (some 83) rfl rfl Tryd.func37 (by kernel_rfl) rfl #[.string a1] rfl (by (try simp only [List.map_toArray, List.map_cons, List.map_nil]); first | done | rfl | (simp only [List.length_drop, List.length_take]; rfl)) ?_; (with_reducible refine (Go.Proofs.YtdbheoffkfmcpaaDoor.K.num_Sign.calls kj28 a1 t115 _ A40.out).mono ?_); rintro e w65 ⟨rfl, hb⟩; refine ⟨_, rfl, ?_⟩; have n0_ := Aside0.mk (below_step (by repeat (first | (with_reducible first | exact HB.out | apply below_alloc | apply pw_below_drewN | apply below_drew1) | exact HB.out)) hb); clear HB; have HB := n0_; clear n0_; (try clear hb); (try clear hb2); (try clear hk); (try clear hi)) | ((with_reducible refine gate_callee (f := 36) rfl ?_); refine goesL_ (some 86) rfl rfl Tryd.func36 (by kernel_rfl) rfl #[.string t107, .string (⟨#[48]⟩ : ByteArray)] rfl (by (try simp only [List.map_toArray, List.map_cons, List.map_nil]); first | done | rfl | (simp only [List.length_drop, List.length_take]; rfl)) ?_; (with_reducible refine (L.num_Cmp.calls kj28 t107 (⟨#[48]⟩ : ByteArray) t116 _ A42.out).mono ?_); rintro e w66 ⟨rfl, hb⟩; refine ⟨_, rfl, ?_⟩; have n0_ := Aside0.mk (below_step (by repeat (first | (with_reducible first | exact HB.out | apply below_alloc | apply pw_below_drewN | apply below_drew1) | exact HB.out)) hb); clear HB; have HB := n0_; clear n0_; (try clear hb); (try clear hb2); (try clear hk); (try clear hi)) | (go_at_call 36; (with_reducible refine (L.num_Cmp.calls kj28 t107 a1 t117 _ A44.out).mono ?_); rintro e w67 ⟨rfl, hb⟩; have n0_ := Aside0.mk (below_step (by repeat (first | (with_reducible first | exact HB.out | apply below_alloc | apply pw_below_drewN | apply below_drew1) | exact HB.out)) hb); clear HB; have HB := n0_; clear n0_; (try clear hb); (try clear hb2); (try clear hk); (try clear hi)))
                      go_ret
                      exact ⟨by first | rfl | (simp [errW_none, errW_some] <;> rfl) | (simp [*, errW_none, errW_some] <;> rfl), by repeat (first | (with_reducible first | exact HB.out | apply below_alloc | apply pw_below_drewN | apply below_drew1) | exact HB.out)⟩
                  · rw [if_neg c43] at H
                    have c43b0 : decide (t116 ≤ 0) = false := decide_eq_false c43
                    clear c43
                    by_cases c68 : t101 = true
                    · subst c68
                      have H1 : (if t108 = 0 then (if t110 = 0 then (if t112 = 0 then (if t111.toList = a0.toList then (some false) else (some false)) else (some false)) else (some false)) else (some false)) = some r := by rw [if_pos rfl] at H; exact H
                      clear H
                      have H := H1
                      clear H1
                      by_cases c69 : t108 = 0
                      · rw [if_pos c69] at H
                        have c69b0 : (t108 == 0) = true := beq_iff_eq.mpr c69
                        have c69b1 : (t108 != 0) = false := bne_eq_false_iff_eq.mpr c69
                        clear c69
                        by_cases c70 : t110 = 0
                        · rw [if_pos c70] at H
                          have c70b0 : (t110 == 0) = true := beq_iff_eq.mpr c70
                          have c70b1 : (t110 != 0) = false := bne_eq_false_iff_eq.mpr c70
                          clear c70
                          by_cases c71 : t112 = 0
                          · rw [if_pos c71] at H
                            have c71b0 : (t112 == 0) = true := beq_iff_eq.mpr c71
                            have c71b1 : (t112 != 0) = false := bne_eq_false_iff_eq.mpr c71
                            clear c71
                            by_cases c72 : t111.toList = a0.toList
                            · rw [if_pos c72] at H
                              have c72b0 : (t111.toList == a0.toList) = true := beq_iff_eq.mpr c72
                              have c72b1 : (t111.toList != a0.toList) = false := bne_eq_false_iff_eq.mpr c72
                              clear c72
                              obtain rfl := Option.some.inj H
                              go_wp2_with (first | ((with_reducible refine gate_callee (f := 37) rfl ?_); refine goesL_ (some 83) rfl rfl Tryd.func37 (by kernel_rfl) rfl #[.string a1] rfl (by (try simp only [List.map_toArray, List.map_cons, List.map_nil]); first | done | rfl | (simp only [List.length_drop, List.length_take]; rfl)) ?_; (with_reducible refine (Go.Proofs.YtdbheoffkfmcpaaDoor.K.num_Sign.calls kj28 a1 t115 _ A40.out).mono ?_); rintro e w73 ⟨rfl, hb⟩; refine ⟨_, rfl, ?_⟩; have n0_ := Aside0.mk (below_step (by repeat (first | (with_reducible first | exact HB.out | apply below_alloc | apply pw_below_drewN | apply below_drew1) | exact HB.out)) hb); clear HB; have HB := n0_; clear n0_; (try clear hb); (try clear hb2); (try clear hk); (try clear hi)) | ((with_reducible refine gate_callee (f := 36) rfl ?_); refine goesL_ (some 86) rfl rfl Tryd.func36 (by kernel_rfl) rfl #[.string t107, .string (⟨#[48]⟩ : ByteArray)] rfl (by (try simp only [List.map_toArray, List.map_cons, List.map_nil]); first | done | rfl | (simp only [List.length_drop, List.length_take]; rfl)) ?_; (with_reducible refine (L.num_Cmp.calls kj28 t107 (⟨#[48]⟩ : ByteArray) t116 _ A42.out).mono ?_); rintro e w74 ⟨rfl, hb⟩; refine ⟨_, rfl, ?_⟩; have n0_ := Aside0.mk (below_step (by repeat (first | (with_reducible first | exact HB.out | apply below_alloc | apply pw_below_drewN | apply below_drew1) | exact HB.out)) hb); clear HB; have HB := n0_; clear n0_; (try clear hb); (try clear hb2); (try clear hk); (try clear hi)))
                              go_ret
                              exact ⟨by first | rfl | (simp [errW_none, errW_some] <;> rfl) | (simp [*, errW_none, errW_some] <;> rfl), by repeat (first | (with_reducible first | exact HB.out | apply below_alloc | apply pw_below_drewN | apply below_drew1) | exact HB.out)⟩
                            · rw [if_neg c72] at H
                              have c72b0 : (t111.toList == a0.toList) = false := beq_eq_false_iff_ne.mpr c72
                              have c72b1 : (t111.toList != a0.toList) = true := bne_iff_ne.mpr c72
                              obtain rfl := Option.some.inj H
                              go_wp2_with (first | ((with_reducible refine gate_callee (f := 37) rfl ?_); refine goesL_ (some 83) rfl rfl Tryd.func37 (by kernel_rfl) rfl #[.string a1] rfl (by (try simp only [List.map_toArray, List.map_cons, List.map_nil]); first | done | rfl | (simp only [List.length_drop, List.length_take]; rfl)) ?_; (with_reducible refine (Go.Proofs.YtdbheoffkfmcpaaDoor.K.num_Sign.calls kj28 a1 t115 _ A40.out).mono ?_); rintro e w75 ⟨rfl, hb⟩; refine ⟨_, rfl, ?_⟩; have n0_ := Aside0.mk (below_step (by repeat (first | (with_reducible first | exact HB.out | apply below_alloc | apply pw_below_drewN | apply below_drew1) | exact HB.out)) hb); clear HB; have HB := n0_; clear n0_; (try clear hb); (try clear hb2); (try clear hk); (try clear hi)) | ((with_reducible refine gate_callee (f := 36) rfl ?_); refine goesL_ (some 86) rfl rfl Tryd.func36 (by kernel_rfl) rfl #[.string t107, .string (⟨#[48]⟩ : ByteArray)] rfl (by (try simp only [List.map_toArray, List.map_cons, List.map_nil]); first | done | rfl | (simp only [List.length_drop, List.length_take]; rfl)) ?_; (with_reducible refine (L.num_Cmp.calls kj28 t107 (⟨#[48]⟩ : ByteArray) t116 _ A42.out).mono ?_); rintro e w76 ⟨rfl, hb⟩; refine ⟨_, rfl, ?_⟩; have n0_ := Aside0.mk (below_step (by repeat (first | (with_reducible first | exact HB.out | apply below_alloc | apply pw_below_drewN | apply below_drew1) | exact HB.out)) hb); clear HB; have HB := n0_; clear n0_; (try clear hb); (try clear hb2); (try clear hk); (try clear hi)))
                              go_ret
                              exact ⟨by first | rfl | (simp [errW_none, errW_some] <;> rfl) | (simp [*, errW_none, errW_some] <;> rfl), by repeat (first | (with_reducible first | exact HB.out | apply below_alloc | apply pw_below_drewN | apply below_drew1) | exact HB.out)⟩
                          · rw [if_neg c71] at H
                            have c71b0 : (t112 == 0) = false := beq_eq_false_iff_ne.mpr c71
                            have c71b1 : (t112 != 0) = true := bne_iff_ne.mpr c71
                            obtain rfl := Option.some.inj H
                            go_wp2_with (first | ((with_reducible refine gate_callee (f := 37) rfl ?_); refine goesL_ (some 83) rfl rfl Tryd.func37 (by kernel_rfl) rfl #[.string a1] rfl (by (try simp only [List.map_toArray, List.map_cons, List.map_nil]); first | done | rfl | (simp only [List.length_drop, List.length_take]; rfl)) ?_; (with_reducible refine (Go.Proofs.YtdbheoffkfmcpaaDoor.K.num_Sign.calls kj28 a1 t115 _ A40.out).mono ?_); rintro e w77 ⟨rfl, hb⟩; refine ⟨_, rfl, ?_⟩; have n0_ := Aside0.mk (below_step (by repeat (first | (with_reducible first | exact HB.out | apply below_alloc | apply pw_below_drewN | apply below_drew1) | exact HB.out)) hb); clear HB; have HB := n0_; clear n0_; (try clear hb); (try clear hb2); (try clear hk); (try clear hi)) | ((with_reducible refine gate_callee (f := 36) rfl ?_); refine goesL_ (some 86) rfl rfl Tryd.func36 (by kernel_rfl) rfl #[.string t107, .string (⟨#[48]⟩ : ByteArray)] rfl (by (try simp only [List.map_toArray, List.map_cons, List.map_nil]); first | done | rfl | (simp only [List.length_drop, List.length_take]; rfl)) ?_; (with_reducible refine (L.num_Cmp.calls kj28 t107 (⟨#[48]⟩ : ByteArray) t116 _ A42.out).mono ?_); rintro e w78 ⟨rfl, hb⟩; refine ⟨_, rfl, ?_⟩; have n0_ := Aside0.mk (below_step (by repeat (first | (with_reducible first | exact HB.out | apply below_alloc | apply pw_below_drewN | apply below_drew1) | exact HB.out)) hb); clear HB; have HB := n0_; clear n0_; (try clear hb); (try clear hb2); (try clear hk); (try clear hi)))
                            go_ret
                            exact ⟨by first | rfl | (simp [errW_none, errW_some] <;> rfl) | (simp [*, errW_none, errW_some] <;> rfl), by repeat (first | (with_reducible first | exact HB.out | apply below_alloc | apply pw_below_drewN | apply below_drew1) | exact HB.out)⟩
                        · rw [if_neg c70] at H
                          have c70b0 : (t110 == 0) = false := beq_eq_false_iff_ne.mpr c70
                          have c70b1 : (t110 != 0) = true := bne_iff_ne.mpr c70
                          obtain rfl := Option.some.inj H
                          go_wp2_with (first | ((with_reducible refine gate_callee (f := 37) rfl ?_); refine goesL_ (some 83) rfl rfl Tryd.func37 (by kernel_rfl) rfl #[.string a1] rfl (by (try simp only [List.map_toArray, List.map_cons, List.map_nil]); first | done | rfl | (simp only [List.length_drop, List.length_take]; rfl)) ?_; (with_reducible refine (Go.Proofs.YtdbheoffkfmcpaaDoor.K.num_Sign.calls kj28 a1 t115 _ A40.out).mono ?_); rintro e w79 ⟨rfl, hb⟩; refine ⟨_, rfl, ?_⟩; have n0_ := Aside0.mk (below_step (by repeat (first | (with_reducible first | exact HB.out | apply below_alloc | apply pw_below_drewN | apply below_drew1) | exact HB.out)) hb); clear HB; have HB := n0_; clear n0_; (try clear hb); (try clear hb2); (try clear hk); (try clear hi)) | ((with_reducible refine gate_callee (f := 36) rfl ?_); refine goesL_ (some 86) rfl rfl Tryd.func36 (by kernel_rfl) rfl #[.string t107, .string (⟨#[48]⟩ : ByteArray)] rfl (by (try simp only [List.map_toArray, List.map_cons, List.map_nil]); first | done | rfl | (simp only [List.length_drop, List.length_take]; rfl)) ?_; (with_reducible refine (L.num_Cmp.calls kj28 t107 (⟨#[48]⟩ : ByteArray) t116 _ A42.out).mono ?_); rintro e w80 ⟨rfl, hb⟩; refine ⟨_, rfl, ?_⟩; have n0_ := Aside0.mk (below_step (by repeat (first | (with_reducible first | exact HB.out | apply below_alloc | apply pw_below_drewN | apply below_drew1) | exact HB.out)) hb); clear HB; have HB := n0_; clear n0_; (try clear hb); (try clear hb2); (try clear hk); (try clear hi)))
                          go_ret
                          exact ⟨by first | rfl | (simp [errW_none, errW_some] <;> rfl) | (simp [*, errW_none, errW_some] <;> rfl), by repeat (first | (with_reducible first | exact HB.out | apply below_alloc | apply pw_below_drewN | apply below_drew1) | exact HB.out)⟩
                      · rw [if_neg c69] at H
                        have c69b0 : (t108 == 0) = false := beq_eq_false_iff_ne.mpr c69
                        have c69b1 : (t108 != 0) = true := bne_iff_ne.mpr c69
                        obtain rfl := Option.some.inj H
                        go_wp2_with (first | ((with_reducible refine gate_callee (f := 37) rfl ?_); refine goesL_ (some 83) rfl rfl Tryd.func37 (by kernel_rfl) rfl #[.string a1] rfl (by (try simp only [List.map_toArray, List.map_cons, List.map_nil]); first | done | rfl | (simp only [List.length_drop, List.length_take]; rfl)) ?_; (with_reducible refine (Go.Proofs.YtdbheoffkfmcpaaDoor.K.num_Sign.calls kj28 a1 t115 _ A40.out).mono ?_); rintro e w81 ⟨rfl, hb⟩; refine ⟨_, rfl, ?_⟩; have n0_ := Aside0.mk (below_step (by repeat (first | (with_reducible first | exact HB.out | apply below_alloc | apply pw_below_drewN | apply below_drew1) | exact HB.out)) hb); clear HB; have HB := n0_; clear n0_; (try clear hb); (try clear hb2); (try clear hk); (try clear hi)) | ((with_reducible refine gate_callee (f := 36) rfl ?_); refine goesL_ (some 86) rfl rfl Tryd.func36 (by kernel_rfl) rfl #[.string t107, .string (⟨#[48]⟩ : ByteArray)] rfl (by (try simp only [List.map_toArray, List.map_cons, List.map_nil]); first | done | rfl | (simp only [List.length_drop, List.length_take]; rfl)) ?_; (with_reducible refine (L.num_Cmp.calls kj28 t107 (⟨#[48]⟩ : ByteArray) t116 _ A42.out).mono ?_); rintro e w82 ⟨rfl, hb⟩; refine ⟨_, rfl, ?_⟩; have n0_ := Aside0.mk (below_step (by repeat (first | (with_reducible first | exact HB.out | apply below_alloc | apply pw_below_drewN | apply below_drew1) | exact HB.out)) hb); clear HB; have HB := n0_; clear n0_; (try clear hb); (try clear hb2); (try clear hk); (try clear hi)))
                        go_ret
                        exact ⟨by first | rfl | (simp [errW_none, errW_some] <;> rfl) | (simp [*, errW_none, errW_some] <;> rfl), by repeat (first | (with_reducible first | exact HB.out | apply below_alloc | apply pw_below_drewN | apply below_drew1) | exact HB.out)⟩
                    · replace c68 := Bool.eq_false_iff.mpr c68
                      subst c68
                      have H1 : (some false) = some r := by rw [if_neg (show ¬ (false = true) by decide)] at H; exact H
                      clear H
                      have H := H1
                      clear H1
                      obtain rfl := Option.some.inj H
                      go_wp2_with (first | ((with_reducible refine gate_callee (f := 37) rfl ?_); refine goesL_ (some 83) rfl rfl Tryd.func37 (by kernel_rfl) rfl #[.string a1] rfl (by (try simp only [List.map_toArray, List.map_cons, List.map_nil]); first | done | rfl | (simp only [List.length_drop, List.length_take]; rfl)) ?_; (with_reducible refine (Go.Proofs.YtdbheoffkfmcpaaDoor.K.num_Sign.calls kj28 a1 t115 _ A40.out).mono ?_); rintro e w83 ⟨rfl, hb⟩; refine ⟨_, rfl, ?_⟩; have n0_ := Aside0.mk (below_step (by repeat (first | (with_reducible first | exact HB.out | apply below_alloc | apply pw_below_drewN | apply below_drew1) | exact HB.out)) hb); clear HB; have HB := n0_; clear n0_; (try clear hb); (try clear hb2); (try clear hk); (try clear hi)) | ((with_reducible refine gate_callee (f := 36) rfl ?_); refine goesL_ (some 86) rfl rfl Tryd.func36 (by kernel_rfl) rfl #[.string t107, .string (⟨#[48]⟩ : ByteArray)] rfl (by (try simp only [List.map_toArray, List.map_cons, List.map_nil]); first | done | rfl | (simp only [List.length_drop, List.length_take]; rfl)) ?_; (with_reducible refine (L.num_Cmp.calls kj28 t107 (⟨#[48]⟩ : ByteArray) t116 _ A42.out).mono ?_); rintro e w84 ⟨rfl, hb⟩; refine ⟨_, rfl, ?_⟩; have n0_ := Aside0.mk (below_step (by repeat (first | (with_reducible first | exact HB.out | apply below_alloc | apply pw_below_drewN | apply below_drew1) | exact HB.out)) hb); clear HB; have HB := n0_; clear n0_; (try clear hb); (try clear hb2); (try clear hk); (try clear hi)))
                      go_ret
                      exact ⟨by first | rfl | (simp [errW_none, errW_some] <;> rfl) | (simp [*, errW_none, errW_some] <;> rfl), by repeat (first | (with_reducible first | exact HB.out | apply below_alloc | apply pw_below_drewN | apply below_drew1) | exact HB.out)⟩
                · rw [if_neg c41] at H
                  have c41b0 : decide (t115 < 0) = false := decide_eq_false c41
                  clear c41
                  by_cases c85 : t101 = true
                  · subst c85
                    have H1 : (if t108 = 0 then (if t110 = 0 then (if t112 = 0 then (if t111.toList = a0.toList then (some x14_28) else (some false)) else (some false)) else (some x14_28)) else (some false)) = some r := by rw [if_pos rfl] at H; exact H
                    clear H
                    have H := H1
                    clear H1
                    by_cases c86 : t108 = 0
                    · rw [if_pos c86] at H
                      have c86b0 : (t108 == 0) = true := beq_iff_eq.mpr c86
                      have c86b1 : (t108 != 0) = false := bne_eq_false_iff_eq.mpr c86
                      clear c86
                      by_cases c87 : t110 = 0
                      · rw [if_pos c87] at H
                        have c87b0 : (t110 == 0) = true := beq_iff_eq.mpr c87
                        have c87b1 : (t110 != 0) = false := bne_eq_false_iff_eq.mpr c87
                        clear c87
                        by_cases c88 : t112 = 0
                        · rw [if_pos c88] at H
                          have c88b0 : (t112 == 0) = true := beq_iff_eq.mpr c88
                          have c88b1 : (t112 != 0) = false := bne_eq_false_iff_eq.mpr c88
                          clear c88
                          by_cases c89 : t111.toList = a0.toList
                          · rw [if_pos c89] at H
                            have c89b0 : (t111.toList == a0.toList) = true := beq_iff_eq.mpr c89
                            have c89b1 : (t111.toList != a0.toList) = false := bne_eq_false_iff_eq.mpr c89
                            clear c89
                            obtain rfl := Option.some.inj H
                            go_wp2_with (first | ((with_reducible refine gate_callee (f := 37) rfl ?_); refine goesL_ (some 83) rfl rfl Tryd.func37 (by kernel_rfl) rfl #[.string a1] rfl (by (try simp only [List.map_toArray, List.map_cons, List.map_nil]); first | done | rfl | (simp only [List.length_drop, List.length_take]; rfl)) ?_; (with_reducible refine (Go.Proofs.YtdbheoffkfmcpaaDoor.K.num_Sign.calls kj28 a1 t115 _ A40.out).mono ?_); rintro e w90 ⟨rfl, hb⟩; refine ⟨_, rfl, ?_⟩; have n0_ := Aside0.mk (below_step (by repeat (first | (with_reducible first | exact HB.out | apply below_alloc | apply pw_below_drewN | apply below_drew1) | exact HB.out)) hb); clear HB; have HB := n0_; clear n0_; (try clear hb); (try clear hb2); (try clear hk); (try clear hi)))
                            go_ret
                            exact ⟨by first | rfl | (simp [errW_none, errW_some] <;> rfl) | (simp [*, errW_none, errW_some] <;> rfl), by repeat (first | (with_reducible first | exact HB.out | apply below_alloc | apply pw_below_drewN | apply below_drew1) | exact HB.out)⟩
                          · rw [if_neg c89] at H
                            have c89b0 : (t111.toList == a0.toList) = false := beq_eq_false_iff_ne.mpr c89
                            have c89b1 : (t111.toList != a0.toList) = true := bne_iff_ne.mpr c89
                            obtain rfl := Option.some.inj H
                            go_wp2_with (first | ((with_reducible refine gate_callee (f := 37) rfl ?_); refine goesL_ (some 83) rfl rfl Tryd.func37 (by kernel_rfl) rfl #[.string a1] rfl (by (try simp only [List.map_toArray, List.map_cons, List.map_nil]); first | done | rfl | (simp only [List.length_drop, List.length_take]; rfl)) ?_; (with_reducible refine (Go.Proofs.YtdbheoffkfmcpaaDoor.K.num_Sign.calls kj28 a1 t115 _ A40.out).mono ?_); rintro e w91 ⟨rfl, hb⟩; refine ⟨_, rfl, ?_⟩; have n0_ := Aside0.mk (below_step (by repeat (first | (with_reducible first | exact HB.out | apply below_alloc | apply pw_below_drewN | apply below_drew1) | exact HB.out)) hb); clear HB; have HB := n0_; clear n0_; (try clear hb); (try clear hb2); (try clear hk); (try clear hi)))
                            go_ret
                            exact ⟨by first | rfl | (simp [errW_none, errW_some] <;> rfl) | (simp [*, errW_none, errW_some] <;> rfl), by repeat (first | (with_reducible first | exact HB.out | apply below_alloc | apply pw_below_drewN | apply below_drew1) | exact HB.out)⟩
                        · rw [if_neg c88] at H
                          have c88b0 : (t112 == 0) = false := beq_eq_false_iff_ne.mpr c88
                          have c88b1 : (t112 != 0) = true := bne_iff_ne.mpr c88
                          obtain rfl := Option.some.inj H
                          go_wp2_with (first | ((with_reducible refine gate_callee (f := 37) rfl ?_); refine goesL_ (some 83) rfl rfl Tryd.func37 (by kernel_rfl) rfl #[.string a1] rfl (by (try simp only [List.map_toArray, List.map_cons, List.map_nil]); first | done | rfl | (simp only [List.length_drop, List.length_take]; rfl)) ?_; (with_reducible refine (Go.Proofs.YtdbheoffkfmcpaaDoor.K.num_Sign.calls kj28 a1 t115 _ A40.out).mono ?_); rintro e w92 ⟨rfl, hb⟩; refine ⟨_, rfl, ?_⟩; have n0_ := Aside0.mk (below_step (by repeat (first | (with_reducible first | exact HB.out | apply below_alloc | apply pw_below_drewN | apply below_drew1) | exact HB.out)) hb); clear HB; have HB := n0_; clear n0_; (try clear hb); (try clear hb2); (try clear hk); (try clear hi)))
                          go_ret
                          exact ⟨by first | rfl | (simp [errW_none, errW_some] <;> rfl) | (simp [*, errW_none, errW_some] <;> rfl), by repeat (first | (with_reducible first | exact HB.out | apply below_alloc | apply pw_below_drewN | apply below_drew1) | exact HB.out)⟩
                      · rw [if_neg c87] at H
                        have c87b0 : (t110 == 0) = false := beq_eq_false_iff_ne.mpr c87
                        have c87b1 : (t110 != 0) = true := bne_iff_ne.mpr c87
                        obtain rfl := Option.some.inj H
                        go_wp2_with (first | ((with_reducible refine gate_callee (f := 37) rfl ?_); refine goesL_ (some 83) rfl rfl Tryd.func37 (by kernel_rfl) rfl #[.string a1] rfl (by (try simp only [List.map_toArray, List.map_cons, List.map_nil]); first | done | rfl | (simp only [List.length_drop, List.length_take]; rfl)) ?_; (with_reducible refine (Go.Proofs.YtdbheoffkfmcpaaDoor.K.num_Sign.calls kj28 a1 t115 _ A40.out).mono ?_); rintro e w93 ⟨rfl, hb⟩; refine ⟨_, rfl, ?_⟩; have n0_ := Aside0.mk (below_step (by repeat (first | (with_reducible first | exact HB.out | apply below_alloc | apply pw_below_drewN | apply below_drew1) | exact HB.out)) hb); clear HB; have HB := n0_; clear n0_; (try clear hb); (try clear hb2); (try clear hk); (try clear hi)))
                        go_ret
                        exact ⟨by first | rfl | (simp [errW_none, errW_some] <;> rfl) | (simp [*, errW_none, errW_some] <;> rfl), by repeat (first | (with_reducible first | exact HB.out | apply below_alloc | apply pw_below_drewN | apply below_drew1) | exact HB.out)⟩
                    · rw [if_neg c86] at H
                      have c86b0 : (t108 == 0) = false := beq_eq_false_iff_ne.mpr c86
                      have c86b1 : (t108 != 0) = true := bne_iff_ne.mpr c86
                      obtain rfl := Option.some.inj H
                      go_wp2_with (first | ((with_reducible refine gate_callee (f := 37) rfl ?_); refine goesL_ (some 83) rfl rfl Tryd.func37 (by kernel_rfl) rfl #[.string a1] rfl (by (try simp only [List.map_toArray, List.map_cons, List.map_nil]); first | done | rfl | (simp only [List.length_drop, List.length_take]; rfl)) ?_; (with_reducible refine (Go.Proofs.YtdbheoffkfmcpaaDoor.K.num_Sign.calls kj28 a1 t115 _ A40.out).mono ?_); rintro e w94 ⟨rfl, hb⟩; refine ⟨_, rfl, ?_⟩; have n0_ := Aside0.mk (below_step (by repeat (first | (with_reducible first | exact HB.out | apply below_alloc | apply pw_below_drewN | apply below_drew1) | exact HB.out)) hb); clear HB; have HB := n0_; clear n0_; (try clear hb); (try clear hb2); (try clear hk); (try clear hi)))
                      go_ret
                      exact ⟨by first | rfl | (simp [errW_none, errW_some] <;> rfl) | (simp [*, errW_none, errW_some] <;> rfl), by repeat (first | (with_reducible first | exact HB.out | apply below_alloc | apply pw_below_drewN | apply below_drew1) | exact HB.out)⟩
                  · replace c85 := Bool.eq_false_iff.mpr c85
                    subst c85
                    have H1 : (some false) = some r := by rw [if_neg (show ¬ (false = true) by decide)] at H; exact H
                    clear H
                    have H := H1
                    clear H1
                    obtain rfl := Option.some.inj H
                    go_wp2_with (first | ((with_reducible refine gate_callee (f := 37) rfl ?_); refine goesL_ (some 83) rfl rfl Tryd.func37 (by kernel_rfl) rfl #[.string a1] rfl (by (try simp only [List.map_toArray, List.map_cons, List.map_nil]); first | done | rfl | (simp only [List.length_drop, List.length_take]; rfl)) ?_; (with_reducible refine (Go.Proofs.YtdbheoffkfmcpaaDoor.K.num_Sign.calls kj28 a1 t115 _ A40.out).mono ?_); rintro e w95 ⟨rfl, hb⟩; refine ⟨_, rfl, ?_⟩; have n0_ := Aside0.mk (below_step (by repeat (first | (with_reducible first | exact HB.out | apply below_alloc | apply pw_below_drewN | apply below_drew1) | exact HB.out)) hb); clear HB; have HB := n0_; clear n0_; (try clear hb); (try clear hb2); (try clear hk); (try clear hi)))
                    go_ret
                    exact ⟨by first | rfl | (simp [errW_none, errW_some] <;> rfl) | (simp [*, errW_none, errW_some] <;> rfl), by repeat (first | (with_reducible first | exact HB.out | apply below_alloc | apply pw_below_drewN | apply below_drew1) | exact HB.out)⟩
          · rw [if_neg c26] at H
            have c26b0 : (t106 == 0) = false := beq_eq_false_iff_ne.mpr c26
            have c26b1 : (t106 != 0) = true := bne_iff_ne.mpr c26
            by_cases c96 : t101 = true
            · subst c96
              have H1 : (some (t106 == 8)) = some r := by rw [if_pos rfl] at H; exact H
              clear H
              have H := H1
              clear H1
              obtain rfl := Option.some.inj H
              go_wp2_with (first | ((with_reducible refine gate_callee (f := 34) rfl ?_); refine goesL_ (some 34) rfl rfl Tryd.func34 (by kernel_rfl) rfl #[.string a0, .string a1] rfl (by (try simp only [List.map_toArray, List.map_cons, List.map_nil]); first | done | rfl | (simp only [List.length_drop, List.length_take]; rfl)) ?_; (with_reducible refine (M.num_Div.calls kj3 a0 a1 t105 t106 _ ?side1 A15.out).mono ?_); (case side1 => refine Hd.GL.below HGL.out ?_; repeat (first | (with_reducible first | exact HB.out | apply below_alloc | apply pw_below_drewN | apply below_drew1) | exact HB.out)); rintro e w97 ⟨rfl, hb⟩; refine ⟨_, rfl, ?_⟩; have n0_ := Aside0.mk (below_step (by repeat (first | (with_reducible first | exact HB.out | apply below_alloc | apply pw_below_drewN | apply below_drew1) | exact HB.out)) hb); clear HB; have HB := n0_; clear n0_; (try clear hb); (try clear hb2); (try clear hk); (try clear hi)) | ((with_reducible refine gate_callee (f := 35) rfl ?_); refine goesL_ (some 40) rfl rfl Tryd.func35 (by kernel_rfl) rfl #[.string a0, .string a1] rfl (by (try simp only [List.map_toArray, List.map_cons, List.map_nil]); first | done | rfl | (simp only [List.length_drop, List.length_take]; rfl)) ?_; (with_reducible refine (M.num_Mod.calls kj3 a0 a1 t107 t108 _ ?side1 A16.out).mono ?_); (case side1 => refine Hd.GL.below HGL.out ?_; repeat (first | (with_reducible first | exact HB.out | apply below_alloc | apply pw_below_drewN | apply below_drew1) | exact HB.out)); rintro e w98 ⟨rfl, hb⟩; refine ⟨_, rfl, ?_⟩; have n0_ := Aside0.mk (below_step (by repeat (first | (with_reducible first | exact HB.out | apply below_alloc | apply pw_below_drewN | apply below_drew1) | exact HB.out)) hb); clear HB; have HB := n0_; clear n0_; (try clear hb); (try clear hb2); (try clear hk); (try clear hi)))
              go_ret
              exact ⟨by first | rfl | (simp [errW_none, errW_some] <;> rfl) | (simp [*, errW_none, errW_some] <;> rfl), by repeat (first | (with_reducible first | exact HB.out | apply below_alloc | apply pw_below_drewN | apply below_drew1) | exact HB.out)⟩
            · replace c96 := Bool.eq_false_iff.mpr c96
              subst c96
              have H1 : (some false) = some r := by rw [if_neg (show ¬ (false = true) by decide)] at H; exact H
              clear H
              have H := H1
              clear H1
              obtain rfl := Option.some.inj H
              go_wp2_with (first | ((with_reducible refine gate_callee (f := 34) rfl ?_); refine goesL_ (some 34) rfl rfl Tryd.func34 (by kernel_rfl) rfl #[.string a0, .string a1] rfl (by (try simp only [List.map_toArray, List.map_cons, List.map_nil]); first | done | rfl | (simp only [List.length_drop, List.length_take]; rfl)) ?_; (with_reducible refine (M.num_Div.calls kj3 a0 a1 t105 t106 _ ?side1 A15.out).mono ?_); (case side1 => refine Hd.GL.below HGL.out ?_; repeat (first | (with_reducible first | exact HB.out | apply below_alloc | apply pw_below_drewN | apply below_drew1) | exact HB.out)); rintro e w99 ⟨rfl, hb⟩; refine ⟨_, rfl, ?_⟩; have n0_ := Aside0.mk (below_step (by repeat (first | (with_reducible first | exact HB.out | apply below_alloc | apply pw_below_drewN | apply below_drew1) | exact HB.out)) hb); clear HB; have HB := n0_; clear n0_; (try clear hb); (try clear hb2); (try clear hk); (try clear hi)) | ((with_reducible refine gate_callee (f := 35) rfl ?_); refine goesL_ (some 40) rfl rfl Tryd.func35 (by kernel_rfl) rfl #[.string a0, .string a1] rfl (by (try simp only [List.map_toArray, List.map_cons, List.map_nil]); first | done | rfl | (simp only [List.length_drop, List.length_take]; rfl)) ?_; (with_reducible refine (M.num_Mod.calls kj3 a0 a1 t107 t108 _ ?side1 A16.out).mono ?_); (case side1 => refine Hd.GL.below HGL.out ?_; repeat (first | (with_reducible first | exact HB.out | apply below_alloc | apply pw_below_drewN | apply below_drew1) | exact HB.out)); rintro e w100 ⟨rfl, hb⟩; refine ⟨_, rfl, ?_⟩; have n0_ := Aside0.mk (below_step (by repeat (first | (with_reducible first | exact HB.out | apply below_alloc | apply pw_below_drewN | apply below_drew1) | exact HB.out)) hb); clear HB; have HB := n0_; clear n0_; (try clear hb); (try clear hb2); (try clear hk); (try clear hi)))
              go_ret
              exact ⟨by first | rfl | (simp [errW_none, errW_some] <;> rfl) | (simp [*, errW_none, errW_some] <;> rfl), by repeat (first | (with_reducible first | exact HB.out | apply below_alloc | apply pw_below_drewN | apply below_drew1) | exact HB.out)⟩
/-- THE ONE PURE STATEMENT of reredoslaw01_NumLeft: yours. -/
def reredoslaw01_NumLeft.Pure : Prop := ∀ (a0 : ByteArray) (a1 : ByteArray), a0.size ≤ 140737488351232 → a1.size ≤ 140737488351232 → ∃ k, reredoslaw01_NumLeft.f k a0 a1 = some true
theorem reredoslaw01_NumLeft.walk (P : reredoslaw01_NumLeft.Pure) (a0 : ByteArray) (a1 : ByteArray) (w : World) (w0 : a0.size ≤ 140737488351232) (w1 : a1.size ≤ 140737488351232) (hG : Hd.GL w) :
    Calls Tryd.prog 10 #[.string a0, .string a1] w fun e w' => e = .returned (.bool true) ∧ Below w.heap.size w w' := by
  obtain ⟨k, h⟩ := P a0 a1 w0 w1
  refine (reredoslaw01_NumLeft.calls k a0 a1 true w hG h).mono ?_
  rintro e w' ⟨rfl, hd⟩
  exact ⟨rfl, hd⟩
end Go.Proofs.YtdbheoffkfmcpaaDoor.LNumLeft
end
