/- What the law leans on, part 34: declarations of several texts of ours, in their order. -/
import Derived.Test.YtdbheoffkfmcpaaDoorProg
import Derived.Below
import Derived.Deep.Draws
import Derived.Deep.AppendLies
import Derived.Maps.AppendAt
import Derived.OwnWalk
import Derived.Laws.BytesArg
import Derived.Laws.MakeOwn
import Derived.Laws.OwnMore
import Derived.Deep.OwnRows
import Derived.Tactics
import Derived.Lib.ConvBytes
import Derived.Laws.Slices
import Derived.WalkKit
import Derived.KernelRfl
import Derived.RowKit3
import Derived.Deep.LoopGhost
import Derived.Deep.QuietTactic
import Derived.BigQuiet
import Derived.WideLaws
import Derived.Deep.DeepCutAuto
import Derived.Deep.CutBlock
import Derived.Deep.RegionHeld3
import Derived.Laws.Rows
import Derived.Lib.AppendStr
import Derived.ArgAppend
import Derived.Laws.IdiomCopy
import Derived.OrdersHeld
import Derived.Laws.BitsLemmas
import Derived.RowKit
import Derived.Test.YtdbheoffkfmcpaaDoorXM0
import Derived.Test.YtdbheoffkfmcpaaDoorXM1
import Derived.Test.YtdbheoffkfmcpaaDoorXM23
import Derived.Test.YtdbheoffkfmcpaaDoorXM2
import Derived.Test.YtdbheoffkfmcpaaDoorXM8
import Derived.Test.YtdbheoffkfmcpaaDoorXM20
import Derived.Test.YtdbheoffkfmcpaaDoorXM24
section
namespace Go.Proofs.YtdbheoffkfmcpaaDoor.LNumBack
open Go.RowKit Go.Proofs.YtdbheoffkfmcpaaDoorW.PrintWords Go.Proofs.YtdbheoffkfmcpaaDoorW.PrintLast Go.Proofs.YtdbheoffkfmcpaaDoorW.PrintMore Go.Proofs.YtdbheoffkfmcpaaDoor.B Go.Proofs.YtdbheoffkfmcpaaDoor.K Go.Proofs.YtdbheoffkfmcpaaDoor.L Go.Proofs.YtdbheoffkfmcpaaDoor.M
attribute [local go_sem] max2_int min2_int max_two min_two max_three min_three max_four min_four
set_option linter.unusedVariables false
set_option linter.unusedSimpArgs false
/-! ### reredoslaw01_few: function 31 -/
def reredoslaw01_few.f (a0 : ByteArray) (a1 : ByteArray) : Option (Bool) := if (a0.size : Int) ≤ 200 then (some (decide ((a1.size : Int) ≤ 200))) else (some false)
set_option maxHeartbeats 8000000 in
set_option maxRecDepth 100000 in
theorem reredoslaw01_few.calls (a0 : ByteArray) (a1 : ByteArray) (r : Bool) (w : World) (h : reredoslaw01_few.f a0 a1 = some r) :
    Calls Tryd.prog 31 #[.string a0, .string a1] w fun e w' => e = .returned (.bool r) ∧ Drawn0 w w' := by
  have H : (if (a0.size : Int) ≤ 200 then (some (decide ((a1.size : Int) ≤ 200))) else (some false)) = some r := h
  clear h
  by_cases c3 : (a0.size : Int) ≤ 200
  · rw [if_pos c3] at H
    have c3b0 : decide ((a0.size : Int) ≤ 200) = true := decide_eq_true c3
    have c3b1 : decide (a0.size ≤ 200) = true := decide_eq_true (by omega)
    clear c3
    obtain rfl := Option.some.inj H
    go_enter Tryd.func31, Tryd.ntmps31
    go_wp2
    go_ret
    exact ⟨by first | rfl | (simp; done) | (simp [*]; done), by repeat (first | exact Drawn0.refl _ | apply Drawn0.step)⟩
  · rw [if_neg c3] at H
    have c3b0 : decide ((a0.size : Int) ≤ 200) = false := decide_eq_false c3
    have c3b1 : decide (a0.size ≤ 200) = false := decide_eq_false (by omega)
    clear c3
    obtain rfl := Option.some.inj H
    go_enter Tryd.func31, Tryd.ntmps31
    go_wp2
    go_ret
    exact ⟨by first | rfl | (simp; done) | (simp [*]; done), by repeat (first | exact Drawn0.refl _ | apply Drawn0.step)⟩
/-! ### reredoslaw01_NumBack: function 12 -/
mutual
def reredoslaw01_NumBack.j0 : Nat → Int → ByteArray → Bool → Int → Bool → Int → Option (Bool)
  | 0, _, _, _, _, _, _ => none
  | k + 1, x0, x1, x5, x6, x7, x8 => if x0 < 0 then (reredoslaw01_NumBack.j1 k x0 x1 x5 x6 x7 (-1)) else (reredoslaw01_NumBack.j1 k x0 x1 x5 x6 x7 x8)
def reredoslaw01_NumBack.j1 : Nat → Int → ByteArray → Bool → Int → Bool → Int → Option (Bool)
  | 0, _, _, _, _, _, _ => none
  | k + 1, x0, x1, x5, x6, x7, x8 => if x7 = true then (if x6 = x0 then ((Hd.numOf.f x0).bind fun t106 => ((Go.Proofs.YtdbheoffkfmcpaaDoor.K.num_May.f t106).bind fun t107 => (if t107 = true then ((Hd.numOf.f x0).bind fun t106 => ((Go.Proofs.YtdbheoffkfmcpaaDoor.K.num_Sign.f k t106).bind fun t109 => (reredoslaw01_NumBack.j2 k x1 x5 (t109 == x8)))) else (reredoslaw01_NumBack.j2 k x1 x5 false)))) else (reredoslaw01_NumBack.j2 k x1 x5 false)) else (reredoslaw01_NumBack.j2 k x1 x5 false)
def reredoslaw01_NumBack.j2 : Nat → ByteArray → Bool → Bool → Option (Bool)
  | 0, _, _, _ => none
  | k + 1, x1, x5, x9 => (Go.Proofs.YtdbheoffkfmcpaaDoor.K.num_May.f x1).bind fun t110 => (if t110 = true then (if x5 = true then (if x9 = true then ((L.num_Neg.f k x1).bind fun t113 => ((L.num_Neg.f k t113).bind fun t114 => (if t114.toList = x1.toList then ((L.num_Neg.f k x1).bind fun t113 => ((Go.Proofs.YtdbheoffkfmcpaaDoor.K.num_Sign.f k t113).bind fun t116 => ((Go.Proofs.YtdbheoffkfmcpaaDoor.K.num_Sign.f k x1).bind fun t117 => (if t116 = (wrap64 (-t117)) then ((L.num_Neg.f k x1).bind fun t113 => ((Go.Proofs.YtdbheoffkfmcpaaDoor.K.num_May.f t113).bind fun t119 => (some t119))) else (some false))))) else (some false)))) else (some false)) else (some false)) else (if x5 = true then (if x9 = true then ((L.num_Neg.f k x1).bind fun t111 => (if t111.toList = ([] : List UInt8) then ((Go.Proofs.YtdbheoffkfmcpaaDoor.K.num_Sign.f k x1).bind fun t112 => (some (t112 == 0))) else (some false))) else (some false)) else (some false)))
end
def reredoslaw01_NumBack.f (k : Nat) (a0 : Int) (a1 : ByteArray) : Option (Bool) := (M.reredoslaw01_shown.f k).bind fun t101 => ((reredoslaw01_few.f a1 a1).bind fun t102 => (if t102 = true then ((Hd.numOf.f a0).bind fun t103 => ((Hd.numInt.f t103).bind fun bt104 => (if a0 > 0 then (reredoslaw01_NumBack.j0 k a0 a1 t101 bt104.1 bt104.2 1) else (reredoslaw01_NumBack.j0 k a0 a1 t101 bt104.1 bt104.2 0)))) else (some t101)))
theorem reredoslaw01_NumBack.mono_l : ∀ k, (∀ y0 y1 y2 y3 y4 y5, LeO (reredoslaw01_NumBack.j0 k y0 y1 y2 y3 y4 y5) (reredoslaw01_NumBack.j0 (k + 1) y0 y1 y2 y3 y4 y5)) ∧ (∀ y0 y1 y2 y3 y4 y5, LeO (reredoslaw01_NumBack.j1 k y0 y1 y2 y3 y4 y5) (reredoslaw01_NumBack.j1 (k + 1) y0 y1 y2 y3 y4 y5)) ∧ (∀ y0 y1 y2, LeO (reredoslaw01_NumBack.j2 k y0 y1 y2) (reredoslaw01_NumBack.j2 (k + 1) y0 y1 y2))
  | 0 => ⟨fun _ _ _ _ _ _ r h => by simp [reredoslaw01_NumBack.j0] at h, fun _ _ _ _ _ _ r h => by simp [reredoslaw01_NumBack.j1] at h, fun _ _ _ r h => by simp [reredoslaw01_NumBack.j2] at h⟩
  | k + 1 => by
    obtain ⟨ih0, ih1, ih2⟩ := reredoslaw01_NumBack.mono_l k
    refine ⟨?_, ?_, ?_⟩
    · intro y0 y1 y2 y3 y4 y5
      unfold reredoslaw01_NumBack.j0
      repeat' first
      | (with_reducible exact ih0 _ _ _ _ _ _)
      | (with_reducible exact ih1 _ _ _ _ _ _)
      | (with_reducible exact ih2 _ _ _)
      | (with_reducible exact Go.Proofs.YtdbheoffkfmcpaaDoor.K.num_Sign.mono _ _)
      | (with_reducible exact L.num_Neg.mono _ _)
      | (with_reducible exact M.reredoslaw01_shown.mono _)
      | (with_reducible exact LeO.refl _)
      | (with_reducible exact LeO.none _)
      | (with_reducible refine LeO.ite ?_ ?_)
      | (with_reducible refine LeO.bind ?_ (fun _ => ?_))
      | exact ih0 _ _ _ _ _ _
      | exact ih1 _ _ _ _ _ _
      | exact ih2 _ _ _
      | exact Go.Proofs.YtdbheoffkfmcpaaDoor.K.num_Sign.mono _ _
      | exact L.num_Neg.mono _ _
      | exact M.reredoslaw01_shown.mono _
      | exact LeO.none _
      | refine LeO.ite ?_ ?_
      | refine LeO.bind ?_ (fun _ => ?_)
    · intro y0 y1 y2 y3 y4 y5
      unfold reredoslaw01_NumBack.j1
      repeat' first
      | (with_reducible exact ih0 _ _ _ _ _ _)
      | (with_reducible exact ih1 _ _ _ _ _ _)
      | (with_reducible exact ih2 _ _ _)
      | (with_reducible exact Go.Proofs.YtdbheoffkfmcpaaDoor.K.num_Sign.mono _ _)
      | (with_reducible exact L.num_Neg.mono _ _)
      | (with_reducible exact M.reredoslaw01_shown.mono _)
      | (with_reducible exact LeO.refl _)
      | (with_reducible exact LeO.none _)
      | (with_reducible refine LeO.ite ?_ ?_)
      | (with_reducible refine LeO.bind ?_ (fun _ => ?_))
      | exact ih0 _ _ _ _ _ _
      | exact ih1 _ _ _ _ _ _
      | exact ih2 _ _ _
      | exact Go.Proofs.YtdbheoffkfmcpaaDoor.K.num_Sign.mono _ _
      | exact L.num_Neg.mono _ _
      | exact M.reredoslaw01_shown.mono _
      | exact LeO.none _
      | refine LeO.ite ?_ ?_
      | refine LeO.bind ?_ (fun _ => ?_)
    · intro y0 y1 y2
      unfold reredoslaw01_NumBack.j2
      repeat' first
      | (with_reducible exact ih0 _ _ _ _ _ _)
      | (with_reducible exact ih1 _ _ _ _ _ _)
      | (with_reducible exact ih2 _ _ _)
      | (with_reducible exact Go.Proofs.YtdbheoffkfmcpaaDoor.K.num_Sign.mono _ _)
      | (with_reducible exact L.num_Neg.mono _ _)
      | (with_reducible exact M.reredoslaw01_shown.mono _)
      | (with_reducible exact LeO.refl _)
      | (with_reducible exact LeO.none _)
      | (with_reducible refine LeO.ite ?_ ?_)
      | (with_reducible refine LeO.bind ?_ (fun _ => ?_))
      | exact ih0 _ _ _ _ _ _
      | exact ih1 _ _ _ _ _ _
      | exact ih2 _ _ _
      | exact Go.Proofs.YtdbheoffkfmcpaaDoor.K.num_Sign.mono _ _
      | exact L.num_Neg.mono _ _
      | exact M.reredoslaw01_shown.mono _
      | exact LeO.none _
      | refine LeO.ite ?_ ?_
      | refine LeO.bind ?_ (fun _ => ?_)
theorem reredoslaw01_NumBack.mono : ∀ a0 a1 k, LeO (reredoslaw01_NumBack.f k a0 a1) (reredoslaw01_NumBack.f (k + 1) a0 a1) := by
  intro a0 a1 k
  obtain ⟨ih0, ih1, ih2⟩ := reredoslaw01_NumBack.mono_l k
  unfold reredoslaw01_NumBack.f
  repeat' first
      | (with_reducible exact ih0 _ _ _ _ _ _)
      | (with_reducible exact ih1 _ _ _ _ _ _)
      | (with_reducible exact ih2 _ _ _)
      | (with_reducible exact Go.Proofs.YtdbheoffkfmcpaaDoor.K.num_Sign.mono _ _)
      | (with_reducible exact L.num_Neg.mono _ _)
      | (with_reducible exact M.reredoslaw01_shown.mono _)
      | (with_reducible exact LeO.refl _)
      | (with_reducible exact LeO.none _)
      | (with_reducible refine LeO.ite ?_ ?_)
      | (with_reducible refine LeO.bind ?_ (fun _ => ?_))
      | exact ih0 _ _ _ _ _ _
      | exact ih1 _ _ _ _ _ _
      | exact ih2 _ _ _
      | exact Go.Proofs.YtdbheoffkfmcpaaDoor.K.num_Sign.mono _ _
      | exact L.num_Neg.mono _ _
      | exact M.reredoslaw01_shown.mono _
      | exact LeO.none _
      | refine LeO.ite ?_ ?_
      | refine LeO.bind ?_ (fun _ => ?_)
set_option maxHeartbeats 8000000 in
set_option maxRecDepth 100000 in
theorem reredoslaw01_NumBack.calls (k : Nat) (a0 : Int) (a1 : ByteArray) (r : Bool) (w : World) (hG : Hd.GL w) (h : reredoslaw01_NumBack.f k a0 a1 = some r) :
    Calls Tryd.prog 12 #[.int .i64 a0, .string a1] w fun e w' => e = .returned (.bool r) ∧ Below w.heap.size w w' := by
  have HGL := Aside0.mk hG
  clear hG
  have HB := Aside0.mk (Below.refl w.heap.size w)
  have H : ((M.reredoslaw01_shown.f k).bind fun t101 => ((reredoslaw01_few.f a1 a1).bind fun t102 => (if t102 = true then ((Hd.numOf.f a0).bind fun t103 => ((Hd.numInt.f t103).bind fun bt104 => (if a0 > 0 then (reredoslaw01_NumBack.j0 k a0 a1 t101 bt104.1 bt104.2 1) else (reredoslaw01_NumBack.j0 k a0 a1 t101 bt104.1 bt104.2 0)))) else (some t101)))) = some r := h
  clear h
  replace H := Option.bind_eq_some_iff.mp H
  obtain ⟨t101, A30, H⟩ := H
  replace H : ((reredoslaw01_few.f a1 a1).bind fun t102 => (if t102 = true then ((Hd.numOf.f a0).bind fun t103 => ((Hd.numInt.f t103).bind fun bt104 => (if a0 > 0 then (reredoslaw01_NumBack.j0 k a0 a1 t101 bt104.1 bt104.2 1) else (reredoslaw01_NumBack.j0 k a0 a1 t101 bt104.1 bt104.2 0)))) else (some t101))) = some r := H
  have A3 := Aside0.mk A30
  clear A30
  replace H := Option.bind_eq_some_iff.mp H
  obtain ⟨t102, A40, H⟩ := H
  replace H : (if t102 = true then ((Hd.numOf.f a0).bind fun t103 => ((Hd.numInt.f t103).bind fun bt104 => (if a0 > 0 then (reredoslaw01_NumBack.j0 k a0 a1 t101 bt104.1 bt104.2 1) else (reredoslaw01_NumBack.j0 k a0 a1 t101 bt104.1 bt104.2 0)))) else (some t101)) = some r := H
  have A4 := Aside0.mk A40
  clear A40
  by_cases c5 : t102 = true
  · subst c5
    have H1 : ((Hd.numOf.f a0).bind fun t103 => ((Hd.numInt.f t103).bind fun bt104 => (if a0 > 0 then (reredoslaw01_NumBack.j0 k a0 a1 t101 bt104.1 bt104.2 1) else (reredoslaw01_NumBack.j0 k a0 a1 t101 bt104.1 bt104.2 0)))) = some r := by rw [if_pos rfl] at H; exact H
    clear H
    have H := H1
    clear H1
    replace H := Option.bind_eq_some_iff.mp H
    obtain ⟨t103, A60, H⟩ := H
    replace H : ((Hd.numInt.f t103).bind fun bt104 => (if a0 > 0 then (reredoslaw01_NumBack.j0 k a0 a1 t101 bt104.1 bt104.2 1) else (reredoslaw01_NumBack.j0 k a0 a1 t101 bt104.1 bt104.2 0))) = some r := H
    have A6 := Aside0.mk A60
    clear A60
    replace H := Option.bind_eq_some_iff.mp H
    obtain ⟨⟨t104, t105⟩, A70, H⟩ := H
    replace H : (if a0 > 0 then (reredoslaw01_NumBack.j0 k a0 a1 t101 t104 t105 1) else (reredoslaw01_NumBack.j0 k a0 a1 t101 t104 t105 0)) = some r := H
    have A7 := Aside0.mk A70
    clear A70
    have HC8 := Aside0.mk H
    clear H
    go_enter Tryd.func12, Tryd.ntmps12
    go_upto_if 23 with (first | ((with_reducible refine gate_callee (f := 30) rfl ?_); refine goesL_ (some 10) rfl rfl Tryd.func30 (by kernel_rfl) rfl #[] rfl (by (try simp only [List.map_toArray, List.map_cons, List.map_nil]); first | done | rfl | (simp only [List.length_drop, List.length_take]; rfl)) ?_; (with_reducible refine (M.reredoslaw01_shown.calls k  t101 _ ?side1 A3.out).mono ?_); (case side1 => refine Hd.GL.below HGL.out ?_; repeat (first | (with_reducible first | exact HB.out | apply below_alloc | apply pw_below_drewN | apply below_drew1) | exact HB.out)); rintro e w9 ⟨rfl, hb⟩; refine ⟨_, rfl, ?_⟩; have n0_ := Aside0.mk (below_step (by repeat (first | (with_reducible first | exact HB.out | apply below_alloc | apply pw_below_drewN | apply below_drew1) | exact HB.out)) hb); clear HB; have HB := n0_; clear n0_; (try clear hb); (try clear hb2); (try clear hk); (try clear hi)) | ((with_reducible refine gate_callee (f := 31) rfl ?_); refine goesL_ (some 13) rfl rfl Tryd.func31 (by kernel_rfl) rfl #[.string a1, .string a1] rfl (by (try simp only [List.map_toArray, List.map_cons, List.map_nil]); first | done | rfl | (simp only [List.length_drop, List.length_take]; rfl)) ?_; (with_reducible refine (reredoslaw01_few.calls a1 a1 true _ A4.out).mono ?_); rintro e w' ⟨rfl, ⟨nd, rfl⟩⟩; refine ⟨_, rfl, ?_⟩) | ((with_reducible refine gate_callee (f := 15) rfl ?_); refine goesL_ (some 18) rfl rfl Tryd.func15 (by kernel_rfl) rfl #[.int .i64 a0] rfl (by (try simp only [List.map_toArray, List.map_cons, List.map_nil]); first | done | rfl | (simp only [List.length_drop, List.length_take]; rfl)) ?_; (with_reducible refine (Hd.numOf.calls a0 t103 _ ?side1 A6.out).mono ?_); (case side1 => refine Hd.GL.below HGL.out ?_; repeat (first | (with_reducible first | exact HB.out | apply below_alloc | apply pw_below_drewN | apply below_drew1) | exact HB.out)); rintro e w10 ⟨rfl, hb⟩; refine ⟨_, rfl, ?_⟩; have n0_ := Aside0.mk (below_step (by repeat (first | (with_reducible first | exact HB.out | apply below_alloc | apply pw_below_drewN | apply below_drew1) | exact HB.out)) hb); clear HB; have HB := n0_; clear n0_; (try clear hb); (try clear hb2); (try clear hk); (try clear hi)) | ((with_reducible refine gate_callee (f := 38) rfl ?_); refine goesL_ (some 19) rfl rfl Tryd.func38 (by kernel_rfl) rfl #[.string t103] rfl (by (try simp only [List.map_toArray, List.map_cons, List.map_nil]); first | done | rfl | (simp only [List.length_drop, List.length_take]; rfl)) ?_; (with_reducible refine (Hd.numInt.calls t103 t104 t105 _ ?side1 A7.out).mono ?_); (case side1 => refine Hd.GL.below HGL.out ?_; repeat (first | (with_reducible first | exact HB.out | apply below_alloc | apply pw_below_drewN | apply below_drew1) | exact HB.out)); rintro e w11 ⟨rfl, hb⟩; refine ⟨_, rfl, ?_⟩; have n0_ := Aside0.mk (below_step (by repeat (first | (with_reducible first | exact HB.out | apply below_alloc | apply pw_below_drewN | apply below_drew1) | exact HB.out)) hb); clear HB; have HB := n0_; clear n0_; (try clear hb); (try clear hb2); (try clear hk); (try clear hi)))
    (try simp only [Act.put, List.setIfInBounds_toArray, List.set_cons_zero, List.set_cons_succ])
    go_cut [8] (fun v8 wc => ∃ (kq : Nat) (x8_7 : Int), v8 = .int .i64 x8_7 ∧ Aside0 (reredoslaw01_NumBack.j0 kq a0 a1 t101 t104 t105 x8_7 = some r) ∧ Aside0 (kq ≤ k) ∧ Aside0 (Below w.heap.size w wc))
    case first =>
      have H := HC8.out
      clear HC8
      by_cases c12 : a0 > 0
      · rw [if_pos c12] at H
        have c12b0 : decide (0 < a0) = true := decide_eq_true c12
        clear c12
        (first | rw [c12b0] | (simp only [i64_w, i32_w]; rw [c12b0]) | skip)
        have H' := Aside0.mk H
        clear H
        go_wp2
        go_meet
        case rel => exact ⟨_, (1), (by first | rfl | (simp; done) | (simp [*]; done)), H', ⟨by first | omega | exact Nat.le_refl _⟩, ⟨by repeat (first | (with_reducible first | exact HB.out | apply below_alloc | apply pw_below_drewN | apply below_drew1) | exact HB.out)⟩⟩
      · rw [if_neg c12] at H
        have c12b0 : decide (0 < a0) = false := decide_eq_false c12
        clear c12
        (first | rw [c12b0] | (simp only [i64_w, i32_w]; rw [c12b0]) | skip)
        have H' := Aside0.mk H
        clear H
        go_wp2
        go_meet
        case rel => exact ⟨_, (0), (by first | rfl | (simp; done) | (simp [*]; done)), H', ⟨by first | omega | exact Nat.le_refl _⟩, ⟨by repeat (first | (with_reducible first | exact HB.out | apply below_alloc | apply pw_below_drewN | apply below_drew1) | exact HB.out)⟩⟩
    case rest =>
      clear HC8
      try clear c1
      try clear p2
      try clear c3
      try clear c5
      try clear c12
      try clear c12b0
      obtain ⟨kq, x8_7, rfl, HA, HJ7, HB⟩ := hcut
      cases kq with
      | zero => exact absurd HA.out (by simp [reredoslaw01_NumBack.j0])
      | succ kj7 =>
        have H := HA.out
        clear HA
        simp only [reredoslaw01_NumBack.j0] at H
        have HC13 := Aside0.mk H
        clear H
        go_upto_if 25 with (fail)
        go_cut [8] (fun v8 wc => ∃ (kq : Nat) (x8_12 : Int), v8 = .int .i64 x8_12 ∧ Aside0 (reredoslaw01_NumBack.j1 kq a0 a1 t101 t104 t105 x8_12 = some r) ∧ Aside0 (kq ≤ kj7) ∧ Aside0 (Below w.heap.size w wc))
        case first =>
          have H := HC13.out
          clear HC13
          by_cases c14 : a0 < 0
          · rw [if_pos c14] at H
            have c14b0 : decide (a0 < 0) = true := decide_eq_true c14
            clear c14
            (first | rw [c14b0] | (simp only [i64_w, i32_w]; rw [c14b0]) | skip)
            have H' := Aside0.mk H
            clear H
            go_wp2
            go_meet
            case rel => exact ⟨_, ((-1)), (by first | rfl | (simp; done) | (simp [*]; done)), H', ⟨by have := HJ7.out; first | omega | exact Nat.le_refl _⟩, ⟨by repeat (first | (with_reducible first | exact HB.out | apply below_alloc | apply pw_below_drewN | apply below_drew1) | exact HB.out)⟩⟩
          · rw [if_neg c14] at H
            have c14b0 : decide (a0 < 0) = false := decide_eq_false c14
            clear c14
            (first | rw [c14b0] | (simp only [i64_w, i32_w]; rw [c14b0]) | skip)
            have H' := Aside0.mk H
            clear H
            go_wp2
            go_meet
            case rel => exact ⟨_, (x8_7), (by first | rfl | (simp; done) | (simp [*]; done)), H', ⟨by have := HJ7.out; first | omega | exact Nat.le_refl _⟩, ⟨by repeat (first | (with_reducible first | exact HB.out | apply below_alloc | apply pw_below_drewN | apply below_drew1) | exact HB.out)⟩⟩
        case rest =>
          clear HC13
          try clear c1
          try clear p2
          try clear c3
          try clear c5
          try clear c12
          try clear c12b0
          try clear c14
          try clear c14b0
          try clear p2
          obtain ⟨kq, x8_12, rfl, HA, HJ12, HB⟩ := hcut
          cases kq with
          | zero => exact absurd HA.out (by simp [reredoslaw01_NumBack.j1])
          | succ kj12 =>
            have H := HA.out
            clear HA
            simp only [reredoslaw01_NumBack.j1] at H
            have HC15 := Aside0.mk H
            clear H
            go_upto_region 10 with (fail)
            go_cut [9] (fun v9 wc => ∃ (kq : Nat) (x9_14 : Bool), v9 = .bool x9_14 ∧ Aside0 (reredoslaw01_NumBack.j2 kq a1 t101 x9_14 = some r) ∧ Aside0 (kq ≤ kj12) ∧ Aside0 (Below w.heap.size w wc))
            case first =>
              have H := HC15.out
              clear HC15
              by_cases c16 : t105 = true
              · subst c16
                have H1 : (if t104 = a0 then ((Hd.numOf.f a0).bind fun t106 => ((Go.Proofs.YtdbheoffkfmcpaaDoor.K.num_May.f t106).bind fun t107 => (if t107 = true then ((Hd.numOf.f a0).bind fun t106 => ((Go.Proofs.YtdbheoffkfmcpaaDoor.K.num_Sign.f kj12 t106).bind fun t109 => (reredoslaw01_NumBack.j2 kj12 a1 t101 (t109 == x8_12)))) else (reredoslaw01_NumBack.j2 kj12 a1 t101 false)))) else (reredoslaw01_NumBack.j2 kj12 a1 t101 false)) = some r := by rw [if_pos rfl] at H; exact H
                clear H
                have H := H1
                clear H1
                by_cases c17 : t104 = a0
                · rw [if_pos c17] at H
                  have c17b0 : (t104 == a0) = true := beq_iff_eq.mpr c17
                  have c17b1 : (t104 != a0) = false := bne_eq_false_iff_eq.mpr c17
                  clear c17
                  (first | rw [c17b0] | (simp only [i64_w, i32_w]; rw [c17b0]) | skip)
                  replace H := Option.bind_eq_some_iff.mp H
                  obtain ⟨t106, A180, H⟩ := H
                  replace H : ((Go.Proofs.YtdbheoffkfmcpaaDoor.K.num_May.f t106).bind fun t107 => (if t107 = true then ((Hd.numOf.f a0).bind fun t106 => ((Go.Proofs.YtdbheoffkfmcpaaDoor.K.num_Sign.f kj12 t106).bind fun t109 => (reredoslaw01_NumBack.j2 kj12 a1 t101 (t109 == x8_12)))) else (reredoslaw01_NumBack.j2 kj12 a1 t101 false))) = some r := H
                  have A18 := Aside0.mk A180
                  clear A180
                  replace H := Option.bind_eq_some_iff.mp H
                  obtain ⟨t107, A190, H⟩ := H
                  replace H : (if t107 = true then ((Hd.numOf.f a0).bind fun t106 => ((Go.Proofs.YtdbheoffkfmcpaaDoor.K.num_Sign.f kj12 t106).bind fun t109 => (reredoslaw01_NumBack.j2 kj12 a1 t101 (t109 == x8_12)))) else (reredoslaw01_NumBack.j2 kj12 a1 t101 false)) = some r := H
                  have A19 := Aside0.mk A190
                  clear A190
                  by_cases c20 : t107 = true
                  · subst c20
                    have H1 : ((Hd.numOf.f a0).bind fun t106 => ((Go.Proofs.YtdbheoffkfmcpaaDoor.K.num_Sign.f kj12 t106).bind fun t109 => (reredoslaw01_NumBack.j2 kj12 a1 t101 (t109 == x8_12)))) = some r := by rw [if_pos rfl] at H; exact H
                    clear H
                    have H := H1
                    clear H1
                    replace H := Option.bind_eq_some_iff.mp H
                    obtain ⟨t1xx, A210, H⟩ := H
                    obtain rfl : t106 = t1xx := Option.some.inj (A18.out.symm.trans A210)
                    replace H : ((Go.Proofs.YtdbheoffkfmcpaaDoor.K.num_Sign.f kj12 t106).bind fun t109 => (reredoslaw01_NumBack.j2 kj12 a1 t101 (t109 == x8_12))) = some r := H
                    have A21 := Aside0.mk A210
                    clear A210
                    replace H := Option.bind_eq_some_iff.mp H
                    obtain ⟨t109, A220, H⟩ := H
                    replace H : (reredoslaw01_NumBack.j2 kj12 a1 t101 (t109 == x8_12)) = some r := H
                    have A22 := Aside0.mk A220
                    clear A220
                    have H' := Aside0.mk H
                    clear H
                    go_wp2_with (first | (go_at_call 15; (with_reducible refine (Hd.numOf.calls a0 t106 _ ?side1 A18.out).mono ?_); (case side1 => refine Hd.GL.below HGL.out ?_; repeat (first | (with_reducible first | exact HB.out | apply below_alloc | apply pw_below_drewN | apply below_drew1) | exact HB.out)); rintro e w23 ⟨rfl, hb⟩; have n0_ := Aside0.mk (below_step (by repeat (first | (with_reducible first | exact HB.out | apply below_alloc | apply pw_below_drewN | apply below_drew1) | exact HB.out)) hb); clear HB; have HB := n0_; clear n0_; (try clear hb); (try clear hb2); (try clear hk); (try clear hi)) | (go_at_call 33; (with_reducible refine (Go.Proofs.YtdbheoffkfmcpaaDoor.K.num_May.calls t106 true _ A19.out).mono ?_); rintro e w24 ⟨rfl, hb⟩; have n0_ := Aside0.mk (below_step (by repeat (first | (with_reducible first | exact HB.out | apply below_alloc | apply pw_below_drewN | apply below_drew1) | exact HB.out)) hb); clear HB; have HB := n0_; clear n0_; (try clear hb); (try clear hb2); (try clear hk); (try clear hi)) | (go_at_call 15; (with_reducible refine (Hd.numOf.calls a0 t106 _ ?side1 A21.out).mono ?_); (case side1 => refine Hd.GL.below HGL.out ?_; repeat (first | (with_reducible first | exact HB.out | apply below_alloc | apply pw_below_drewN | apply below_drew1) | exact HB.out)); rintro e w25 ⟨rfl, hb⟩; have n0_ := Aside0.mk (below_step (by repeat (first | (with_reducible first | exact HB.out | apply below_alloc | apply pw_below_drewN | apply below_drew1) | exact HB.out)) hb); clear HB; have HB := n0_; clear n0_; (try clear hb); (try clear hb2); (try clear hk); (try clear hi)) | (go_at_call 37; (with_reducible refine (Go.Proofs.YtdbheoffkfmcpaaDoor.K.num_Sign.calls kj12 t106 t109 _ A22.out).mono ?_); rintro e w26 ⟨rfl, hb⟩; have n0_ := Aside0.mk (below_step (by repeat (first | (with_reducible first | exact HB.out | apply below_alloc | apply pw_below_drewN | apply below_drew1) | exact HB.out)) hb); clear HB; have HB := n0_; clear n0_; (try clear hb); (try clear hb2); (try clear hk); (try clear hi)))
                    go_meet
                    case rel => exact ⟨_, ((t109 == x8_12)), (by first | rfl | (simp; done) | (simp [*]; done)), H', ⟨by have := HJ7.out; have := HJ12.out; first | omega | exact Nat.le_refl _⟩, ⟨by repeat (first | (with_reducible first | exact HB.out | apply below_alloc | apply pw_below_drewN | apply below_drew1) | exact HB.out)⟩⟩
                  · replace c20 := Bool.eq_false_iff.mpr c20
                    subst c20
                    have H1 : (reredoslaw01_NumBack.j2 kj12 a1 t101 false) = some r := by rw [if_neg (show ¬ (false = true) by decide)] at H; exact H
                    clear H
                    have H := H1
                    clear H1
                    have H' := Aside0.mk H
                    clear H
                    go_wp2_with (first | (go_at_call 15; (with_reducible refine (Hd.numOf.calls a0 t106 _ ?side1 A18.out).mono ?_); (case side1 => refine Hd.GL.below HGL.out ?_; repeat (first | (with_reducible first | exact HB.out | apply below_alloc | apply pw_below_drewN | apply below_drew1) | exact HB.out)); rintro e w27 ⟨rfl, hb⟩; have n0_ := Aside0.mk (below_step (by repeat (first | (with_reducible first | exact HB.out | apply below_alloc | apply pw_below_drewN | apply below_drew1) | exact HB.out)) hb); clear HB; have HB := n0_; clear n0_; (try clear hb); (try clear hb2); (try clear hk); (try clear hi)) | (go_at_call 33; (with_reducible refine (Go.Proofs.YtdbheoffkfmcpaaDoor.K.num_May.calls t106 false _ A19.out).mono ?_); rintro e w28 ⟨rfl, hb⟩; have n0_ := Aside0.mk (below_step (by repeat (first | (with_reducible first | exact HB.out | apply below_alloc | apply pw_below_drewN | apply below_drew1) | exact HB.out)) hb); clear HB; have HB := n0_; clear n0_; (try clear hb); (try clear hb2); (try clear hk); (try clear hi)))
                    go_meet
                    case rel => exact ⟨_, (false), (by first | rfl | (simp; done) | (simp [*]; done)), H', ⟨by have := HJ7.out; have := HJ12.out; first | omega | exact Nat.le_refl _⟩, ⟨by repeat (first | (with_reducible first | exact HB.out | apply below_alloc | apply pw_below_drewN | apply below_drew1) | exact HB.out)⟩⟩
                · rw [if_neg c17] at H
                  have c17b0 : (t104 == a0) = false := beq_eq_false_iff_ne.mpr c17
                  have c17b1 : (t104 != a0) = true := bne_iff_ne.mpr c17
                  (first | rw [c17b0] | (simp only [i64_w, i32_w]; rw [c17b0]) | skip)
                  have H' := Aside0.mk H
                  clear H
                  go_wp2
                  go_meet
                  case rel => exact ⟨_, (false), (by first | rfl | (simp; done) | (simp [*]; done)), H', ⟨by have := HJ7.out; have := HJ12.out; first | omega | exact Nat.le_refl _⟩, ⟨by repeat (first | (with_reducible first | exact HB.out | apply below_alloc | apply pw_below_drewN | apply below_drew1) | exact HB.out)⟩⟩
              · replace c16 := Bool.eq_false_iff.mpr c16
                subst c16
                have H1 : (reredoslaw01_NumBack.j2 kj12 a1 t101 false) = some r := by rw [if_neg (show ¬ (false = true) by decide)] at H; exact H
                clear H
                have H := H1
                clear H1
                have H' := Aside0.mk H
                clear H
                go_wp2
                go_meet
                case rel => exact ⟨_, (false), (by first | rfl | (simp; done) | (simp [*]; done)), H', ⟨by have := HJ7.out; have := HJ12.out; first | omega | exact Nat.le_refl _⟩, ⟨by repeat (first | (with_reducible first | exact HB.out | apply below_alloc | apply pw_below_drewN | apply below_drew1) | exact HB.out)⟩⟩
            case rest =>
              clear HC15
              try clear c1
              try clear c2
              try clear p2
              try clear c3
              try clear c5
              try clear c12
              try clear c12b0
              try clear c14
              try clear c14b0
              try clear c15
              try clear c16
              try clear c17
              try clear c17b0
              try clear c17b1
              try clear c20
              try clear p2
              obtain ⟨kq, x9_14, rfl, HA, HJ14, HB⟩ := hcut
              cases kq with
              | zero => exact absurd HA.out (by simp [reredoslaw01_NumBack.j2])
              | succ kj14 =>
                have H := HA.out
                clear HA
                simp only [reredoslaw01_NumBack.j2] at H
                replace H := Option.bind_eq_some_iff.mp H
                obtain ⟨t110, A290, H⟩ := H
                replace H : (if t110 = true then (if t101 = true then (if x9_14 = true then ((L.num_Neg.f kj14 a1).bind fun t113 => ((L.num_Neg.f kj14 t113).bind fun t114 => (if t114.toList = a1.toList then ((L.num_Neg.f kj14 a1).bind fun t113 => ((Go.Proofs.YtdbheoffkfmcpaaDoor.K.num_Sign.f kj14 t113).bind fun t116 => ((Go.Proofs.YtdbheoffkfmcpaaDoor.K.num_Sign.f kj14 a1).bind fun t117 => (if t116 = (wrap64 (-t117)) then ((L.num_Neg.f kj14 a1).bind fun t113 => ((Go.Proofs.YtdbheoffkfmcpaaDoor.K.num_May.f t113).bind fun t119 => (some t119))) else (some false))))) else (some false)))) else (some false)) else (some false)) else (if t101 = true then (if x9_14 = true then ((L.num_Neg.f kj14 a1).bind fun t111 => (if t111.toList = ([] : List UInt8) then ((Go.Proofs.YtdbheoffkfmcpaaDoor.K.num_Sign.f kj14 a1).bind fun t112 => (some (t112 == 0))) else (some false))) else (some false)) else (some false))) = some r := H
                have A29 := Aside0.mk A290
                clear A290
                by_cases c30 : t110 = true
                · subst c30
                  have H1 : (if t101 = true then (if x9_14 = true then ((L.num_Neg.f kj14 a1).bind fun t113 => ((L.num_Neg.f kj14 t113).bind fun t114 => (if t114.toList = a1.toList then ((L.num_Neg.f kj14 a1).bind fun t113 => ((Go.Proofs.YtdbheoffkfmcpaaDoor.K.num_Sign.f kj14 t113).bind fun t116 => ((Go.Proofs.YtdbheoffkfmcpaaDoor.K.num_Sign.f kj14 a1).bind fun t117 => (if t116 = (wrap64 (-t117)) then ((L.num_Neg.f kj14 a1).bind fun t113 => ((Go.Proofs.YtdbheoffkfmcpaaDoor.K.num_May.f t113).bind fun t119 => (some t119))) else (some false))))) else (some false)))) else (some false)) else (some false)) = some r := by rw [if_pos rfl] at H; exact H
                  clear H
                  have H := H1
                  clear H1
                  by_cases c31 : t101 = true
                  · subst c31
                    have H1 : (if x9_14 = true then ((L.num_Neg.f kj14 a1).bind fun t113 => ((L.num_Neg.f kj14 t113).bind fun t114 => (if t114.toList = a1.toList then ((L.num_Neg.f kj14 a1).bind fun t113 => ((Go.Proofs.YtdbheoffkfmcpaaDoor.K.num_Sign.f kj14 t113).bind fun t116 => ((Go.Proofs.YtdbheoffkfmcpaaDoor.K.num_Sign.f kj14 a1).bind fun t117 => (if t116 = (wrap64 (-t117)) then ((L.num_Neg.f kj14 a1).bind fun t113 => ((Go.Proofs.YtdbheoffkfmcpaaDoor.K.num_May.f t113).bind fun t119 => (some t119))) else (some false))))) else (some false)))) else (some false)) = some r := by rw [if_pos rfl] at H; exact H
                    clear H
                    have H := H1
                    clear H1
                    by_cases c32 : x9_14 = true
                    · subst c32
                      have H1 : ((L.num_Neg.f kj14 a1).bind fun t113 => ((L.num_Neg.f kj14 t113).bind fun t114 => (if t114.toList = a1.toList then ((L.num_Neg.f kj14 a1).bind fun t113 => ((Go.Proofs.YtdbheoffkfmcpaaDoor.K.num_Sign.f kj14 t113).bind fun t116 => ((Go.Proofs.YtdbheoffkfmcpaaDoor.K.num_Sign.f kj14 a1).bind fun t117 => (if t116 = (wrap64 (-t117)) then ((L.num_Neg.f kj14 a1).bind fun t113 => ((Go.Proofs.YtdbheoffkfmcpaaDoor.K.num_May.f t113).bind fun t119 => (some t119))) else (some false))))) else (some false)))) = some r := by rw [if_pos rfl] at H; exact H
                      clear H
                      have H := H1
                      clear H1
                      replace H := Option.bind_eq_some_iff.mp H
                      obtain ⟨t113, A330, H⟩ := H
                      replace H : ((L.num_Neg.f kj14 t113).bind fun t114 => (if t114.toList = a1.toList then ((L.num_Neg.f kj14 a1).bind fun t113 => ((Go.Proofs.YtdbheoffkfmcpaaDoor.K.num_Sign.f kj14 t113).bind fun t116 => ((Go.Proofs.YtdbheoffkfmcpaaDoor.K.num_Sign.f kj14 a1).bind fun t117 => (if t116 = (wrap64 (-t117)) then ((L.num_Neg.f kj14 a1).bind fun t113 => ((Go.Proofs.YtdbheoffkfmcpaaDoor.K.num_May.f t113).bind fun t119 => (some t119))) else (some false))))) else (some false))) = some r := H
                      have A33 := Aside0.mk A330
                      clear A330
                      replace H := Option.bind_eq_some_iff.mp H
                      obtain ⟨t114, A340, H⟩ := H
                      replace H : (if t114.toList = a1.toList then ((L.num_Neg.f kj14 a1).bind fun t113 => ((Go.Proofs.YtdbheoffkfmcpaaDoor.K.num_Sign.f kj14 t113).bind fun t116 => ((Go.Proofs.YtdbheoffkfmcpaaDoor.K.num_Sign.f kj14 a1).bind fun t117 => (if t116 = (wrap64 (-t117)) then ((L.num_Neg.f kj14 a1).bind fun t113 => ((Go.Proofs.YtdbheoffkfmcpaaDoor.K.num_May.f t113).bind fun t119 => (some t119))) else (some false))))) else (some false)) = some r := H
                      have A34 := Aside0.mk A340
                      clear A340
                      by_cases c35 : t114.toList = a1.toList
                      · rw [if_pos c35] at H
                        have c35b0 : (t114.toList == a1.toList) = true := beq_iff_eq.mpr c35
                        have c35b1 : (t114.toList != a1.toList) = false := bne_eq_false_iff_eq.mpr c35
                        clear c35
                        replace H := Option.bind_eq_some_iff.mp H
                        obtain ⟨t1xx, A360, H⟩ := H
                        obtain rfl : t113 = t1xx := Option.some.inj (A33.out.symm.trans A360)
                        replace H : ((Go.Proofs.YtdbheoffkfmcpaaDoor.K.num_Sign.f kj14 t113).bind fun t116 => ((Go.Proofs.YtdbheoffkfmcpaaDoor.K.num_Sign.f kj14 a1).bind fun t117 => (if t116 = (wrap64 (-t117)) then ((L.num_Neg.f kj14 a1).bind fun t113 => ((Go.Proofs.YtdbheoffkfmcpaaDoor.K.num_May.f t113).bind fun t119 => (some t119))) else (some false)))) = some r := H
                        have A36 := Aside0.mk A360
                        clear A360
                        replace H := Option.bind_eq_some_iff.mp H
                        obtain ⟨t116, A370, H⟩ := H
                        replace H : ((Go.Proofs.YtdbheoffkfmcpaaDoor.K.num_Sign.f kj14 a1).bind fun t117 => (if t116 = (wrap64 (-t117)) then ((L.num_Neg.f kj14 a1).bind fun t113 => ((Go.Proofs.YtdbheoffkfmcpaaDoor.K.num_May.f t113).bind fun t119 => (some t119))) else (some false))) = some r := H
                        have A37 := Aside0.mk A370
                        clear A370
                        replace H := Option.bind_eq_some_iff.mp H
                        obtain ⟨t117, A380, H⟩ := H
                        replace H : (if t116 = (wrap64 (-t117)) then ((L.num_Neg.f kj14 a1).bind fun t113 => ((Go.Proofs.YtdbheoffkfmcpaaDoor.K.num_May.f t113).bind fun t119 => (some t119))) else (some false)) = some r := H
                        have A38 := Aside0.mk A380
                        clear A380
                        by_cases c39 : t116 = (wrap64 (-t117))
                        · rw [if_pos c39] at H
                          have c39b0 : (t116 == (wrap64 (-t117))) = true := beq_iff_eq.mpr c39
                          have c39b1 : (t116 != (wrap64 (-t117))) = false := bne_eq_false_iff_eq.mpr c39
                          clear c39
                          replace H := Option.bind_eq_some_iff.mp H
                          obtain ⟨t1xx, A400, H⟩ := H
                          obtain rfl : t113 = t1xx := Option.some.inj (A33.out.symm.trans A400)
                          replace H : ((Go.Proofs.YtdbheoffkfmcpaaDoor.K.num_May.f t113).bind fun t119 => (some t119)) = some r := H
                          have A40 := Aside0.mk A400
                          clear A400
                          replace H := Option.bind_eq_some_iff.mp H
                          obtain ⟨t119, A410, H⟩ := H
                          replace H : (some t119) = some r := H
                          have A41 := Aside0.mk A410
                          clear A410
                          obtain rfl := Option.some.inj H
                          go_wp2_with (first | ((with_reducible refine gate_callee (f := 33) rfl ?_); refine goesL_ (some 45) rfl rfl Tryd.func33 (by kernel_rfl) rfl #[.string a1] rfl (by (try simp only [List.map_toArray, List.map_cons, List.map_nil]); first | done | rfl | (simp only [List.length_drop, List.length_take]; rfl)) ?_; (with_reducible refine (Go.Proofs.YtdbheoffkfmcpaaDoor.K.num_May.calls a1 true _ A29.out).mono ?_); rintro e w42 ⟨rfl, hb⟩; refine ⟨_, rfl, ?_⟩; have n0_ := Aside0.mk (below_step (by repeat (first | (with_reducible first | exact HB.out | apply below_alloc | apply pw_below_drewN | apply below_drew1) | exact HB.out)) hb); clear HB; have HB := n0_; clear n0_; (try clear hb); (try clear hb2); (try clear hk); (try clear hi)) | (go_at_call 39; (with_reducible refine (L.num_Neg.calls kj14 a1 t113 _ ?side1 A33.out).mono ?_); (case side1 => refine Hd.GL.below HGL.out ?_; repeat (first | (with_reducible first | exact HB.out | apply below_alloc | apply pw_below_drewN | apply below_drew1) | exact HB.out)); rintro e w43 ⟨rfl, hb⟩; have n0_ := Aside0.mk (below_step (by repeat (first | (with_reducible first | exact HB.out | apply below_alloc | apply pw_below_drewN | apply below_drew1) | exact HB.out)) hb); clear HB; have HB := n0_; clear n0_; (try clear hb); (try clear hb2); (try clear hk); (try clear hi)) | (go_at_call 39; (with_reducible refine (L.num_Neg.calls kj14 t113 t114 _ ?side1 A34.out).mono ?_); (case side1 => refine Hd.GL.below HGL.out ?_; repeat (first | (with_reducible first | exact HB.out | apply below_alloc | apply pw_below_drewN | apply below_drew1) | exact HB.out)); rintro e w44 ⟨rfl, hb⟩; have n0_ := Aside0.mk (below_step (by repeat (first | (with_reducible first | exact HB.out | apply below_alloc | apply pw_below_drewN | apply below_drew1) | exact HB.out)) hb); clear HB; have HB := n0_; clear n0_; (try clear hb); (try clear hb2); (try clear hk); (try clear hi)) | (go_at_call 39; (with_reducible refine (L.num_Neg.calls kj14 a1 t113 _ ?side1 A36.out).mono ?_); (case side1 => refine Hd.GL.below HGL.out ?_; repeat (first | (with_reducible first | exact HB.out | apply below_alloc | apply pw_below_drewN | apply below_drew1) | exact HB.out)); rintro e w45 ⟨rfl, hb⟩; have n0_ := Aside0.mk (below_step (by repeat (first | (with_reducible first | exact HB.out | apply below_alloc | apply pw_below_drewN | apply below_drew1) | exact HB.out)) hb); clear HB; have HB := n0_; clear n0_; (try clear hb); (try clear hb2); (try clear hk); (try clear hi)) | (go_at_call 37; (with_reducible refine (Go.Proofs.YtdbheoffkfmcpaaDoor.K.num_Sign.calls kj14 t113 t116 _ A37.out).mono ?_); rintro e w46 ⟨rfl, hb⟩; have n0_ := Aside0.mk (below_step (by repeat (first | (with_reducible first | exact HB.out | apply below_alloc | apply pw_below_drewN | apply below_drew1) | exact HB.out)) hb); clear HB; have HB := n0_; clear n0_; (try clear hb); (try clear hb2); (try clear hk); (try clear hi)) | (go_at_call 37; (with_reducible refine (Go.Proofs.YtdbheoffkfmcpaaDoor.K.num_Sign.calls kj14 a1 t117 _ A38.out).mono ?_); rintro e w47 ⟨rfl, hb⟩; have n0_ := Aside0.mk (below_step (by repeat (first | (with_reducible first | exact HB.out | apply below_alloc | apply pw_below_drewN | apply below_drew1) | exact HB.out)) hb); clear HB; have HB := n0_; clear n0_; (try clear hb); (try clear hb2); (try clear hk); (try clear hi)) | (go_at_call 39; (with_reducible refine (L.num_Neg.calls kj14 a1 t113 _ ?side1 A40.out).mono ?_); (case side1 => refine Hd.GL.below HGL.out ?_; repeat (first | (with_reducible first | exact HB.out | apply below_alloc | apply pw_below_drewN | apply below_drew1) | exact HB.out)); rintro e w48 ⟨rfl, hb⟩; have n0_ := Aside0.mk (below_step (by repeat (first | (with_reducible first | exact HB.out | apply below_alloc | apply pw_below_drewN | apply below_drew1) | exact HB.out)) hb); clear HB; have HB := n0_; clear n0_; (try clear hb); (try clear hb2); (try clear hk); (try clear hi)) | (go_at_call 33; (with_reducible refine (Go.Proofs.YtdbheoffkfmcpaaDoor.K.num_May.calls t113 t119 _ A41.out).mono ?_); rintro e w49 ⟨rfl, hb⟩; have n0_ := Aside0.mk (below_step (by repeat (first | (with_reducible first | exact HB.out | apply below_alloc | apply pw_below_drewN | apply below_drew1) | exact HB.out)) hb); clear HB; have HB := n0_; clear n0_; (try clear hb); (try clear hb2); (try clear hk); (try clear hi)))
                          go_ret
                          exact ⟨by first | rfl | (simp [errW_none, errW_some] <;> rfl) | (simp [*, errW_none, errW_some] <;> rfl), by repeat (first | (with_reducible first | exact HB.out | apply below_alloc | apply pw_below_drewN | apply below_drew1) | exact HB.out)⟩
                        · rw [if_neg c39] at H
                          have c39b0 : (t116 == (wrap64 (-t117))) = false := beq_eq_false_iff_ne.mpr c39
                          have c39b1 : (t116 != (wrap64 (-t117))) = true := bne_iff_ne.mpr c39
                          obtain rfl := Option.some.inj H
                          go_wp2_with (first | ((with_reducible refine gate_callee (f := 33) rfl ?_); refine goesL_ (some 45) rfl rfl Tryd.func33 (by kernel_rfl) rfl #[.string a1] rfl (by (try simp only [List.map_toArray, List.map_cons, List.map_nil]); first | done | rfl | (simp only [List.length_drop, List.length_take]; rfl)) ?_; (with_reducible refine (Go.Proofs.YtdbheoffkfmcpaaDoor.K.num_May.calls a1 true _ A29.out).mono ?_); rintro e w50 ⟨rfl, hb⟩; refine ⟨_, rfl, ?_⟩; have n0_ := Aside0.mk (below_step (by repeat (first | (with_reducible first | exact HB.out | apply below_alloc | apply pw_below_drewN | apply below_drew1) | exact HB.out)) hb); clear HB; have HB := n0_; clear n0_; (try clear hb); (try clear hb2); (try clear hk); (try clear hi)) | (go_at_call 39; (with_reducible refine (L.num_Neg.calls kj14 a1 t113 _ ?side1 A33.out).mono ?_); (case side1 => refine Hd.GL.below HGL.out ?_; repeat (first | (with_reducible first | exact HB.out | apply below_alloc | apply pw_below_drewN | apply below_drew1) | exact HB.out)); rintro e w51 ⟨rfl, hb⟩; have n0_ := Aside0.mk (below_step (by repeat (first | (with_reducible first | exact HB.out | apply below_alloc | apply pw_below_drewN | apply below_drew1) | exact HB.out)) hb); clear HB; have HB := n0_; clear n0_; (try clear hb); (try clear hb2); (try clear hk); (try clear hi)) | (go_at_call 39; (with_reducible refine (L.num_Neg.calls kj14 t113 t114 _ ?side1 A34.out).mono ?_); (case side1 => refine Hd.GL.below HGL.out ?_; repeat (first | (with_reducible first | exact HB.out | apply below_alloc | apply pw_below_drewN | apply below_drew1) | exact HB.out)); rintro e w52 ⟨rfl, hb⟩; have n0_ := Aside0.mk (below_step (by repeat (first | (with_reducible first | exact HB.out | apply below_alloc | apply pw_below_drewN | apply below_drew1) | exact HB.out)) hb); clear HB; have HB := n0_; clear n0_; (try clear hb); (try clear hb2); (try clear hk); (try clear hi)) | (go_at_call 39; (with_reducible refine (L.num_Neg.calls kj14 a1 t113 _ ?side1 A36.out).mono ?_); (case side1 => refine Hd.GL.below HGL.out ?_; repeat (first | (with_reducible first | exact HB.out | apply below_alloc | apply pw_below_drewN | apply below_drew1) | exact HB.out)); rintro e w53 ⟨rfl, hb⟩; have n0_ := Aside0.mk (below_step (by repeat (first | (with_reducible first | exact HB.out | apply below_alloc | apply pw_below_drewN | apply below_drew1) | exact HB.out)) hb); clear HB; have HB := n0_; clear n0_; (try clear hb); (try clear hb2); (try clear hk); (try clear hi)) | (go_at_call 37; (with_reducible refine (Go.Proofs.YtdbheoffkfmcpaaDoor.K.num_Sign.calls kj14 t113 t116 _ A37.out).mono ?_); rintro e w54 ⟨rfl, hb⟩; have n0_ := Aside0.mk (below_step (by repeat (first | (with_reducible first | exact HB.out | apply below_alloc | apply pw_below_drewN | apply below_drew1) | exact HB.out)) hb); clear HB; have HB := n0_; clear n0_; (try clear hb); (try clear hb2); (try clear hk); (try clear hi)) | (go_at_call 37; (with_reducible refine (Go.Proofs.YtdbheoffkfmcpaaDoor.K.num_Sign.calls kj14 a1 t117 _ A38.out).mono ?_); rintro e w55 ⟨rfl, hb⟩; have n0_ := Aside0.mk (below_step (by repeat (first | (with_reducible first | exact HB.out | apply below_alloc | apply pw_below_drewN | apply below_drew1) | exact HB.out)) hb); clear HB; have HB := n0_; clear n0_; (try clear hb); (try clear hb2); (try clear hk); (try clear hi)))
                          go_ret
                          exact ⟨by first | rfl | (simp [errW_none, errW_some] <;> rfl) | (simp [*, errW_none, errW_some] <;> rfl), by repeat (first | (with_reducible first | exact HB.out | apply below_alloc | apply pw_below_drewN | apply below_drew1) | exact HB.out)⟩
                      · rw [if_neg c35] at H
                        have c35b0 : (t114.toList == a1.toList) = false := beq_eq_false_iff_ne.mpr c35
                        have c35b1 : (t114.toList != a1.toList) = true := bne_iff_ne.mpr c35
                        obtain rfl := Option.some.inj H
                        go_wp2_with (first | ((with_reducible refine gate_callee (f := 33) rfl ?_); refine goesL_ (some 45) rfl rfl Tryd.func33 (by kernel_rfl) rfl #[.string a1] rfl (by (try simp only [List.map_toArray, List.map_cons, List.map_nil]); first | done | rfl | (simp only [List.length_drop, List.length_take]; rfl)) ?_; (with_reducible refine (Go.Proofs.YtdbheoffkfmcpaaDoor.K.num_May.calls a1 true _ A29.out).mono ?_); rintro e w56 ⟨rfl, hb⟩; refine ⟨_, rfl, ?_⟩; have n0_ := Aside0.mk (below_step (by repeat (first | (with_reducible first | exact HB.out | apply below_alloc | apply pw_below_drewN | apply below_drew1) | exact HB.out)) hb); clear HB; have HB := n0_; clear n0_; (try clear hb); (try clear hb2); (try clear hk); (try clear hi)) | (go_at_call 39; (with_reducible refine (L.num_Neg.calls kj14 a1 t113 _ ?side1 A33.out).mono ?_); (case side1 => refine Hd.GL.below HGL.out ?_; repeat (first | (with_reducible first | exact HB.out | apply below_alloc | apply pw_below_drewN | apply below_drew1) | exact HB.out)); rintro e w57 ⟨rfl, hb⟩; have n0_ := Aside0.mk (below_step (by repeat (first | (with_reducible first | exact HB.out | apply below_alloc | apply pw_below_drewN | apply below_drew1) | exact HB.out)) hb); clear HB; have HB := n0_; clear n0_; (try clear hb); (try clear hb2); (try clear hk); (try clear hi)) | (go_at_call 39; (with_reducible refine (L.num_Neg.calls kj14 t113 t114 _ ?side1 A34.out).mono ?_); (case side1 => refine Hd.GL.below HGL.out ?_; repeat (first | (with_reducible first | exact HB.out | apply below_alloc | apply pw_below_drewN | apply below_drew1) | exact HB.out)); rintro e w58 ⟨rfl, hb⟩; have n0_ := Aside0.mk (below_step (by repeat (first | (with_reducible first | exact HB.out | apply below_alloc | apply pw_below_drewN | apply below_drew1) | exact HB.out)) hb); clear HB; have HB := n0_; clear n0_; (try clear hb); (try clear hb2); (try clear hk); (try clear hi)))
                        go_ret
                        exact ⟨by first | rfl | (simp [errW_none, errW_some] <;> rfl) | (simp [*, errW_none, errW_some] <;> rfl), by repeat (first | (with_reducible first | exact HB.out | apply below_alloc | apply pw_below_drewN | apply below_drew1) | exact HB.out)⟩
                    · replace c32 := Bool.eq_false_iff.mpr c32
                      subst c32
                      have H1 : (some false) = some r := by rw [if_neg (show ¬ (false = true) by decide)] at H; exact H
                      clear H
                      have H := H1
                      clear H1
                      obtain rfl := Option.some.inj H
                      go_wp2_with (first | ((with_reducible refine gate_callee (f := 33) rfl ?_); refine goesL_ (some 45) rfl rfl Tryd.func33 (by kernel_rfl) rfl #[.string a1] rfl (by (try simp only [List.map_toArray, List.map_cons, List.map_nil]); first | done | rfl | (simp only [List.length_drop, List.length_take]; rfl)) ?_; (with_reducible refine (Go.Proofs.YtdbheoffkfmcpaaDoor.K.num_May.calls a1 true _ A29.out).mono ?_); rintro e w59 ⟨rfl, hb⟩; refine ⟨_, rfl, ?_⟩; have n0_ := Aside0.mk (below_step (by repeat (first | (with_reducible first | exact HB.out | apply below_alloc | apply pw_below_drewN | apply below_drew1) | exact HB.out)) hb); clear HB; have HB := n0_; clear n0_; (try clear hb); (try clear hb2); (try clear hk); (try clear hi)))
                      go_ret
                      exact ⟨by first | rfl | (simp [errW_none, errW_some] <;> rfl) | (simp [*, errW_none, errW_some] <;> rfl), by repeat (first | (with_reducible first | exact HB.out | apply below_alloc | apply pw_below_drewN | apply below_drew1) | exact HB.out)⟩
                  · replace c31 := Bool.eq_false_iff.mpr c31
                    subst c31
                    have H1 : (some false) = some r := by rw [if_neg (show ¬ (false = true) by decide)] at H; exact H
                    clear H
                    have H := H1
                    clear H1
                    obtain rfl := Option.some.inj H
                    go_wp2_with (first | ((with_reducible refine gate_callee (f := 33) rfl ?_); refine goesL_ (some 45) rfl rfl Tryd.func33 (by kernel_rfl) rfl #[.string a1] rfl (by (try simp only [List.map_toArray, List.map_cons, List.map_nil]); first | done | rfl | (simp only [List.length_drop, List.length_take]; rfl)) ?_; (with_reducible refine (Go.Proofs.YtdbheoffkfmcpaaDoor.K.num_May.calls a1 true _ A29.out).mono ?_); rintro e w60 ⟨rfl, hb⟩; refine ⟨_, rfl, ?_⟩; have n0_ := Aside0.mk (below_step (by repeat (first | (with_reducible first | exact HB.out | apply below_alloc | apply pw_below_drewN | apply below_drew1) | exact HB.out)) hb); clear HB; have HB := n0_; clear n0_; (try clear hb); (try clear hb2); (try clear hk); (try clear hi)))
                    go_ret
                    exact ⟨by first | rfl | (simp [errW_none, errW_some] <;> rfl) | (simp [*, errW_none, errW_some] <;> rfl), by repeat (first | (with_reducible first | exact HB.out | apply below_alloc | apply pw_below_drewN | apply below_drew1) | exact HB.out)⟩
                · replace c30 := Bool.eq_false_iff.mpr c30
                  subst c30
                  have H1 : (if t101 = true then (if x9_14 = true then ((L.num_Neg.f kj14 a1).bind fun t111 => (if t111.toList = ([] : List UInt8) then ((Go.Proofs.YtdbheoffkfmcpaaDoor.K.num_Sign.f kj14 a1).bind fun t112 => (some (t112 == 0))) else (some false))) else (some false)) else (some false)) = some r := by rw [if_neg (show ¬ (false = true) by decide)] at H; exact H
                  clear H
                  have H := H1
                  clear H1
                  by_cases c61 : t101 = true
                  · subst c61
                    have H1 : (if x9_14 = true then ((L.num_Neg.f kj14 a1).bind fun t111 => (if t111.toList = ([] : List UInt8) then ((Go.Proofs.YtdbheoffkfmcpaaDoor.K.num_Sign.f kj14 a1).bind fun t112 => (some (t112 == 0))) else (some false))) else (some false)) = some r := by rw [if_pos rfl] at H; exact H
                    clear H
                    have H := H1
                    clear H1
                    by_cases c62 : x9_14 = true
                    · subst c62
                      have H1 : ((L.num_Neg.f kj14 a1).bind fun t111 => (if t111.toList = ([] : List UInt8) then ((Go.Proofs.YtdbheoffkfmcpaaDoor.K.num_Sign.f kj14 a1).bind fun t112 => (some (t112 == 0))) else (some false))) = some r := by rw [if_pos rfl] at H; exact H
                      clear H
                      have H := H1
                      clear H1
                      replace H := Option.bind_eq_some_iff.mp H
                      obtain ⟨t111, A630, H⟩ := H
                      replace H : (if t111.toList = ([] : List UInt8) then ((Go.Proofs.YtdbheoffkfmcpaaDoor.K.num_Sign.f kj14 a1).bind fun t112 => (some (t112 == 0))) else (some false)) = some r := H
                      have A63 := Aside0.mk A630
                      clear A630
                      by_cases c64 : t111.toList = ([] : List UInt8)
                      · rw [if_pos c64] at H
                        have c64b0 : (t111.toList == ([] : List UInt8)) = true := beq_iff_eq.mpr c64
                        have c64b1 : (t111.toList != ([] : List UInt8)) = false := bne_eq_false_iff_eq.mpr c64
                        clear c64
                        replace H := Option.bind_eq_some_iff.mp H
                        obtain ⟨t112, A650, H⟩ := H
                        replace H : (some (t112 == 0)) = some r := H
                        have A65 := Aside0.mk A650
                        clear A650
                        obtain rfl := Option.some.inj H
                        go_wp2_with (first | ((with_reducible refine gate_callee (f := 33) rfl ?_); refine goesL_ (some 45) rfl rfl Tryd.func33 (by kernel_rfl) rfl #[.string a1] rfl (by (try simp only [List.map_toArray, List.map_cons, List.map_nil]); first | done | rfl | (simp only [List.length_drop, List.length_take]; rfl)) ?_; (with_reducible refine (Go.Proofs.YtdbheoffkfmcpaaDoor.K.num_May.calls a1 false _ A29.out).mono ?_); rintro e w66 ⟨rfl, hb⟩; refine ⟨_, rfl, ?_⟩; have n0_ := Aside0.mk (below_step (by repeat (first | (with_reducible first | exact HB.out | apply below_alloc | apply pw_below_drewN | apply below_drew1) | exact HB.out)) hb); clear HB; have HB := n0_; clear n0_; (try clear hb); (try clear hb2); (try clear hk); (try clear hi)) | (go_at_call 39; (with_reducible refine (L.num_Neg.calls kj14 a1 t111 _ ?side1 A63.out).mono ?_); (case side1 => refine Hd.GL.below HGL.out ?_; repeat (first | (with_reducible first | exact HB.out | apply below_alloc | apply pw_below_drewN | apply below_drew1) | exact HB.out)); rintro e w67 ⟨rfl, hb⟩; have n0_ := Aside0.mk (below_step (by repeat (first | (with_reducible first | exact HB.out | apply below_alloc | apply pw_below_drewN | apply below_drew1) | exact HB.out)) hb); clear HB; have HB := n0_; clear n0_; (try clear hb); (try clear hb2); (try clear hk); (try clear hi)) | (go_at_call 37; (with_reducible refine (Go.Proofs.YtdbheoffkfmcpaaDoor.K.num_Sign.calls kj14 a1 t112 _ A65.out).mono ?_); rintro e w68 ⟨rfl, hb⟩; have n0_ := Aside0.mk (below_step (by repeat (first | (with_reducible first | exact HB.out | apply below_alloc | apply pw_below_drewN | apply below_drew1) | exact HB.out)) hb); clear HB; have HB := n0_; clear n0_; (try clear hb); (try clear hb2); (try clear hk); (try clear hi)))
                        go_ret
                        exact ⟨by first | rfl | (simp [errW_none, errW_some] <;> rfl) | (simp [*, errW_none, errW_some] <;> rfl), by repeat (first | (with_reducible first | exact HB.out | apply below_alloc | apply pw_below_drewN | apply below_drew1) | exact HB.out)⟩
                      · rw [if_neg c64] at H
                        have c64b0 : (t111.toList == ([] : List UInt8)) = false := beq_eq_false_iff_ne.mpr c64
                        have c64b1 : (t111.toList != ([] : List UInt8)) = true := bne_iff_ne.mpr c64
                        obtain rfl := Option.some.inj H
                        go_wp2_with (first | ((with_reducible refine gate_callee (f := 33) rfl ?_); refine goesL_ (some 45) rfl rfl Tryd.func33 (by kernel_rfl) rfl #[.string a1] rfl (by (try simp only [List.map_toArray, List.map_cons, List.map_nil]); first | done | rfl | (simp only [List.length_drop, List.length_take]; rfl)) ?_; (with_reducible refine (Go.Proofs.YtdbheoffkfmcpaaDoor.K.num_May.calls a1 false _ A29.out).mono ?_); rintro e w69 ⟨rfl, hb⟩; refine ⟨_, rfl, ?_⟩; have n0_ := Aside0.mk (below_step (by repeat (first | (with_reducible first | exact HB.out | apply below_alloc | apply pw_below_drewN | apply below_drew1) | exact HB.out)) hb); clear HB; have HB := n0_; clear n0_; (try clear hb); (try clear hb2); (try clear hk); (try clear hi)) | (go_at_call 39; (with_reducible refine (L.num_Neg.calls kj14 a1 t111 _ ?side1 A63.out).mono ?_); (case side1 => refine Hd.GL.below HGL.out ?_; repeat (first | (with_reducible first | exact HB.out | apply below_alloc | apply pw_below_drewN | apply below_drew1) | exact HB.out)); rintro e w70 ⟨rfl, hb⟩; have n0_ := Aside0.mk (below_step (by repeat (first | (with_reducible first | exact HB.out | apply below_alloc | apply pw_below_drewN | apply below_drew1) | exact HB.out)) hb); clear HB; have HB := n0_; clear n0_; (try clear hb); (try clear hb2); (try clear hk); (try clear hi)))
                        go_ret
                        exact ⟨by first | rfl | (simp [errW_none, errW_some] <;> rfl) | (simp [*, errW_none, errW_some] <;> rfl), by repeat (first | (with_reducible first | exact HB.out | apply below_alloc | apply pw_below_drewN | apply below_drew1) | exact HB.out)⟩
                    · replace c62 := Bool.eq_false_iff.mpr c62
                      subst c62
                      have H1 : (some false) = some r := by rw [if_neg (show ¬ (false = true) by decide)] at H; exact H
                      clear H
                      have H := H1
                      clear H1
                      obtain rfl := Option.some.inj H
                      go_wp2_with (first | ((with_reducible refine gate_callee (f := 33) rfl ?_); refine goesL_ (some 45) rfl rfl Tryd.func33 (by kernel_rfl) rfl #[.string a1] rfl (by (try simp only [List.map_toArray, List.map_cons, List.map_nil]); first | done | rfl | (simp only [List.length_drop, List.length_take]; rfl)) ?_; (with_reducible refine (Go.Proofs.YtdbheoffkfmcpaaDoor.K.num_May.calls a1 false _ A29.out).mono ?_); rintro e w71 ⟨rfl, hb⟩; refine ⟨_, rfl, ?_⟩; have n0_ := Aside0.mk (below_step (by repeat (first | (with_reducible first | exact HB.out | apply below_alloc | apply pw_below_drewN | apply below_drew1) | exact HB.out)) hb); clear HB; have HB := n0_; clear n0_; (try clear hb); (try clear hb2); (try clear hk); (try clear hi)))
                      go_ret
                      exact ⟨by first | rfl | (simp [errW_none, errW_some] <;> rfl) | (simp [*, errW_none, errW_some] <;> rfl), by repeat (first | (with_reducible first | exact HB.out | apply below_alloc | apply pw_below_drewN | apply below_drew1) | exact HB.out)⟩
                  · replace c61 := Bool.eq_false_iff.mpr c61
                    subst c61
                    have H1 : (some false) = some r := by rw [if_neg (show ¬ (false = true) by decide)] at H; exact H
                    clear H
                    have H := H1
                    clear H1
                    obtain rfl := Option.some.inj H
                    go_wp2_with (first | ((with_reducible refine gate_callee (f := 33) rfl ?_); refine goesL_ (some 45) rfl rfl Tryd.func33 (by kernel_rfl) rfl #[.string a1] rfl (by (try simp only [List.map_toArray, List.map_cons, List.map_nil]); first | done | rfl | (simp only [List.length_drop, List.length_take]; rfl)) ?_; (with_reducible refine (Go.Proofs.YtdbheoffkfmcpaaDoor.K.num_May.calls a1 false _ A29.out).mono ?_); rintro e w72 ⟨rfl, hb⟩; refine ⟨_, rfl, ?_⟩; have n0_ := Aside0.mk (below_step (by repeat (first | (with_reducible first | exact HB.out | apply below_alloc | apply pw_below_drewN | apply below_drew1) | exact HB.out)) hb); clear HB; have HB := n0_; clear n0_; (try clear hb); (try clear hb2); (try clear hk); (try clear hi)))
                    go_ret
                    exact ⟨by first | rfl | (simp [errW_none, errW_some] <;> rfl) | (simp [*, errW_none, errW_some] <;> rfl), by repeat (first | (with_reducible first | exact HB.out | apply below_alloc | apply pw_below_drewN | apply below_drew1) | exact HB.out)⟩
  · replace c5 := Bool.eq_false_iff.mpr c5
    subst c5
    have H1 : (some t101) = some r := by rw [if_neg (show ¬ (false = true) by decide)] at H; exact H
    clear H
    have H := H1
    clear H1
    obtain rfl := Option.some.inj H
    go_enter Tryd.func12, Tryd.ntmps12
    go_wp2_with (first | ((with_reducible refine gate_callee (f := 30) rfl ?_); refine goesL_ (some 10) rfl rfl Tryd.func30 (by kernel_rfl) rfl #[] rfl (by (try simp only [List.map_toArray, List.map_cons, List.map_nil]); first | done | rfl | (simp only [List.length_drop, List.length_take]; rfl)) ?_; (with_reducible refine (M.reredoslaw01_shown.calls k  t101 _ ?side1 A3.out).mono ?_); (case side1 => refine Hd.GL.below HGL.out ?_; repeat (first | (with_reducible first | exact HB.out | apply below_alloc | apply pw_below_drewN | apply below_drew1) | exact HB.out)); rintro e w73 ⟨rfl, hb⟩; refine ⟨_, rfl, ?_⟩; have n0_ := Aside0.mk (below_step (by repeat (first | (with_reducible first | exact HB.out | apply below_alloc | apply pw_below_drewN | apply below_drew1) | exact HB.out)) hb); clear HB; have HB := n0_; clear n0_; (try clear hb); (try clear hb2); (try clear hk); (try clear hi)) | ((with_reducible refine gate_callee (f := 31) rfl ?_); refine goesL_ (some 13) rfl rfl Tryd.func31 (by kernel_rfl) rfl #[.string a1, .string a1] rfl (by (try simp only [List.map_toArray, List.map_cons, List.map_nil]); first | done | rfl | (simp only [List.length_drop, List.length_take]; rfl)) ?_; (with_reducible refine (reredoslaw01_few.calls a1 a1 false _ A4.out).mono ?_); rintro e w' ⟨rfl, ⟨nd, rfl⟩⟩; refine ⟨_, rfl, ?_⟩))
    go_ret
    exact ⟨by first | rfl | (simp [errW_none, errW_some] <;> rfl) | (simp [*, errW_none, errW_some] <;> rfl), by repeat (first | (with_reducible first | exact HB.out | apply below_alloc | apply pw_below_drewN | apply below_drew1) | exact HB.out)⟩
/-- THE ONE PURE STATEMENT of reredoslaw01_NumBack: yours. -/
def reredoslaw01_NumBack.Pure : Prop := ∀ (a0 : Int) (a1 : ByteArray), (Lit.int .i64 a0).wf = true → a1.size ≤ 140737488351232 → ∃ k, reredoslaw01_NumBack.f k a0 a1 = some true
theorem reredoslaw01_NumBack.walk (P : reredoslaw01_NumBack.Pure) (a0 : Int) (a1 : ByteArray) (w : World) (w0 : (Lit.int .i64 a0).wf = true) (w1 : a1.size ≤ 140737488351232) (hG : Hd.GL w) :
    Calls Tryd.prog 12 #[.int .i64 a0, .string a1] w fun e w' => e = .returned (.bool true) ∧ Below w.heap.size w w' := by
  obtain ⟨k, h⟩ := P a0 a1 w0 w1
  refine (reredoslaw01_NumBack.calls k a0 a1 true w hG h).mono ?_
  rintro e w' ⟨rfl, hd⟩
  exact ⟨rfl, hd⟩
end Go.Proofs.YtdbheoffkfmcpaaDoor.LNumBack
end
