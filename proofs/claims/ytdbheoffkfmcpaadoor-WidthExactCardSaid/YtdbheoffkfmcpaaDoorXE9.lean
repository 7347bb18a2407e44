/- What the law leans on, part 10: declarations of several texts of ours, in their order. -/
import Derived.Test.YtdbheoffkfmcpaaDoorXE8
section
namespace Go.Proofs.YtdbheoffkfmcpaaDoor.LExact
open Go.RowKit Go.Proofs.YtdbheoffkfmcpaaDoorW.PrintWords Go.Proofs.YtdbheoffkfmcpaaDoorW.PrintLast Go.Proofs.YtdbheoffkfmcpaaDoorW.PrintMore Go.Proofs.YtdbheoffkfmcpaaDoor.B Go.Proofs.YtdbheoffkfmcpaaDoor.K Go.Proofs.YtdbheoffkfmcpaaDoor.LS Go.Proofs.YtdbheoffkfmcpaaDoor.L
attribute [local go_sem] max2_int min2_int max_two min_two max_three min_three max_four min_four
set_option linter.unusedVariables false
set_option linter.unusedSimpArgs false
/-! ### reredoslaw02_WidthExact: function 8 -/
def reredoslaw02_WidthExact.j0 : Nat → Int → Int → Bool → Int → Int → Bool → Int → Bool → Bool → Option (Bool)
  | 0, _, _, _, _, _, _, _, _, _ => none
  | k + 1, x0, x1, x7, x10, x11, x12, x13, x14, x89 => if x89 = true then (some false) else ((Go.Proofs.YtdbheoffkfmcpaaDoor.K.width_Mul.f k x0 x1 x10).bind fun bt125 => ((Go.Proofs.YtdbheoffkfmcpaaDoor.K.width_Add.f k x0 x1 x10).bind fun bt127 => (if x7 = true then (if x12 = true then (if bt125.2 = true then (if bt125.1 = x11 then (if x14 = true then (if bt127.2 = true then (some (bt127.1 == x13)) else (some false)) else (some true)) else (some false)) else (some false)) else (if x14 = true then (if bt127.2 = true then (some (bt127.1 == x13)) else (some false)) else (some true))) else (some false))))
def reredoslaw02_WidthExact.f (k : Nat) (a0 : Int) (a1 : Int) (a2 : Int) : Option (Bool) := (LS.reredoslaw02_shown.f k).bind fun t101 => ((some (([8, 16, 32, 64, 128] : List Int) : List Int)).bind fun y102 => (if 0 ≤ (Int.tmod a2 5) then (if (Int.tmod a2 5) < (y102.length : Int) then ((Hd.widthNext.f (rd y102 (Int.tmod a2 5))).bind fun t106 => ((Go.Proofs.YtdbheoffkfmcpaaDoor.K.width_Mul.f k a0 a1 (rd y102 (Int.tmod a2 5))).bind fun bt107 => ((Go.Proofs.YtdbheoffkfmcpaaDoor.K.width_Add.f k a0 a1 (rd y102 (Int.tmod a2 5))).bind fun bt109 => ((Hd.numOf.f a0).bind fun t111 => ((Hd.numOf.f a1).bind fun t112 => ((L.num_Mul.f k t111 t112).bind fun bt113 => ((Hd.numOf.f a0).bind fun t115 => ((Hd.numOf.f a1).bind fun t116 => ((L.num_Add.f k t115 t116).bind fun bt117 => (if bt107.2 = true then ((Hd.numOf.f bt107.1).bind fun t119 => (if t119.toList = bt113.1.toList then ((Go.Proofs.YtdbheoffkfmcpaaDoor.K.width_Fits.f k bt107.1 (rd y102 (Int.tmod a2 5))).bind fun t120 => (if t120 = true then (if bt109.2 = true then ((Hd.numOf.f bt109.1).bind fun t121 => (if t121.toList = bt117.1.toList then ((Go.Proofs.YtdbheoffkfmcpaaDoor.K.width_Fits.f k bt109.1 (rd y102 (Int.tmod a2 5))).bind fun t122 => (reredoslaw02_WidthExact.j0 k a0 a1 t101 t106 bt107.1 bt107.2 bt109.1 bt109.2 (!t122))) else (reredoslaw02_WidthExact.j0 k a0 a1 t101 t106 bt107.1 bt107.2 bt109.1 bt109.2 true))) else (reredoslaw02_WidthExact.j0 k a0 a1 t101 t106 bt107.1 bt107.2 bt109.1 bt109.2 false)) else (reredoslaw02_WidthExact.j0 k a0 a1 t101 t106 bt107.1 bt107.2 bt109.1 bt109.2 true))) else (reredoslaw02_WidthExact.j0 k a0 a1 t101 t106 bt107.1 bt107.2 bt109.1 bt109.2 true))) else (if bt109.2 = true then ((Hd.numOf.f bt109.1).bind fun t123 => (if t123.toList = bt117.1.toList then ((Go.Proofs.YtdbheoffkfmcpaaDoor.K.width_Fits.f k bt109.1 (rd y102 (Int.tmod a2 5))).bind fun t124 => (reredoslaw02_WidthExact.j0 k a0 a1 t101 t106 bt107.1 bt107.2 bt109.1 bt109.2 (!t124))) else (reredoslaw02_WidthExact.j0 k a0 a1 t101 t106 bt107.1 bt107.2 bt109.1 bt109.2 true))) else (reredoslaw02_WidthExact.j0 k a0 a1 t101 t106 bt107.1 bt107.2 bt109.1 bt109.2 false)))))))))))) else (none)) else (none)))
theorem reredoslaw02_WidthExact.mono_l : ∀ k, (∀ y0 y1 y2 y3 y4 y5 y6 y7 y8, LeO (reredoslaw02_WidthExact.j0 k y0 y1 y2 y3 y4 y5 y6 y7 y8) (reredoslaw02_WidthExact.j0 (k + 1) y0 y1 y2 y3 y4 y5 y6 y7 y8))
  | 0 => fun _ _ _ _ _ _ _ _ _ r h => by simp [reredoslaw02_WidthExact.j0] at h
  | k + 1 => by
    have ih0 := reredoslaw02_WidthExact.mono_l k
    · intro y0 y1 y2 y3 y4 y5 y6 y7 y8
      unfold reredoslaw02_WidthExact.j0
      repeat' first
      | (with_reducible exact ih0 _ _ _ _ _ _ _ _ _)
      | (with_reducible exact Go.Proofs.YtdbheoffkfmcpaaDoor.K.width_Add.mono _ _ _ _)
      | (with_reducible exact Go.Proofs.YtdbheoffkfmcpaaDoor.K.width_Fits.mono _ _ _)
      | (with_reducible exact Go.Proofs.YtdbheoffkfmcpaaDoor.K.width_Mul.mono _ _ _ _)
      | (with_reducible exact L.num_Add.mono _ _ _)
      | (with_reducible exact L.num_Mul.mono _ _ _)
      | (with_reducible exact LS.reredoslaw02_shown.mono _)
      | (with_reducible exact LeO.refl _)
      | (with_reducible exact LeO.none _)
      | (with_reducible refine LeO.ite ?_ ?_)
      | (with_reducible refine LeO.bind ?_ (fun _ => ?_))
      | exact ih0 _ _ _ _ _ _ _ _ _
      | exact Go.Proofs.YtdbheoffkfmcpaaDoor.K.width_Add.mono _ _ _ _
      | exact Go.Proofs.YtdbheoffkfmcpaaDoor.K.width_Fits.mono _ _ _
      | exact Go.Proofs.YtdbheoffkfmcpaaDoor.K.width_Mul.mono _ _ _ _
      | exact L.num_Add.mono _ _ _
      | exact L.num_Mul.mono _ _ _
      | exact LS.reredoslaw02_shown.mono _
      | exact LeO.none _
      | refine LeO.ite ?_ ?_
      | refine LeO.bind ?_ (fun _ => ?_)
theorem reredoslaw02_WidthExact.mono : ∀ a0 a1 a2 k, LeO (reredoslaw02_WidthExact.f k a0 a1 a2) (reredoslaw02_WidthExact.f (k + 1) a0 a1 a2) := by
  intro a0 a1 a2 k
  have ih0 := reredoslaw02_WidthExact.mono_l k
  unfold reredoslaw02_WidthExact.f
  repeat' first
      | (with_reducible exact ih0 _ _ _ _ _ _ _ _ _)
      | (with_reducible exact Go.Proofs.YtdbheoffkfmcpaaDoor.K.width_Add.mono _ _ _ _)
      | (with_reducible exact Go.Proofs.YtdbheoffkfmcpaaDoor.K.width_Fits.mono _ _ _)
      | (with_reducible exact Go.Proofs.YtdbheoffkfmcpaaDoor.K.width_Mul.mono _ _ _ _)
      | (with_reducible exact L.num_Add.mono _ _ _)
      | (with_reducible exact L.num_Mul.mono _ _ _)
      | (with_reducible exact LS.reredoslaw02_shown.mono _)
      | (with_reducible exact LeO.refl _)
      | (with_reducible exact LeO.none _)
      | (with_reducible refine LeO.ite ?_ ?_)
      | (with_reducible refine LeO.bind ?_ (fun _ => ?_))
      | exact ih0 _ _ _ _ _ _ _ _ _
      | exact Go.Proofs.YtdbheoffkfmcpaaDoor.K.width_Add.mono _ _ _ _
      | exact Go.Proofs.YtdbheoffkfmcpaaDoor.K.width_Fits.mono _ _ _
      | exact Go.Proofs.YtdbheoffkfmcpaaDoor.K.width_Mul.mono _ _ _ _
      | exact L.num_Add.mono _ _ _
      | exact L.num_Mul.mono _ _ _
      | exact LS.reredoslaw02_shown.mono _
      | exact LeO.none _
      | refine LeO.ite ?_ ?_
      | refine LeO.bind ?_ (fun _ => ?_)
set_option maxHeartbeats 8000000 in
set_option maxRecDepth 100000 in
theorem reredoslaw02_WidthExact.calls (k : Nat) (a0 : Int) (a1 : Int) (a2 : Int) (r : Bool) (w : World) (hG : Hd.GL w) (h : reredoslaw02_WidthExact.f k a0 a1 a2 = some r) :
    Calls Tryd.prog 8 #[.int .i64 a0, .int .i64 a1, .int .u8 a2] w fun e w' => e = .returned (.bool r) ∧ Below w.heap.size w w' := by
  have HGL := Aside0.mk hG
  clear hG
  have HB := Aside0.mk (Below.refl w.heap.size w)
  have H : ((LS.reredoslaw02_shown.f k).bind fun t101 => ((some (([8, 16, 32, 64, 128] : List Int) : List Int)).bind fun y102 => (if 0 ≤ (Int.tmod a2 5) then (if (Int.tmod a2 5) < (y102.length : Int) then ((Hd.widthNext.f (rd y102 (Int.tmod a2 5))).bind fun t106 => ((Go.Proofs.YtdbheoffkfmcpaaDoor.K.width_Mul.f k a0 a1 (rd y102 (Int.tmod a2 5))).bind fun bt107 => ((Go.Proofs.YtdbheoffkfmcpaaDoor.K.width_Add.f k a0 a1 (rd y102 (Int.tmod a2 5))).bind fun bt109 => ((Hd.numOf.f a0).bind fun t111 => ((Hd.numOf.f a1).bind fun t112 => ((L.num_Mul.f k t111 t112).bind fun bt113 => ((Hd.numOf.f a0).bind fun t115 => ((Hd.numOf.f a1).bind fun t116 => ((L.num_Add.f k t115 t116).bind fun bt117 => (if bt107.2 = true then ((Hd.numOf.f bt107.1).bind fun t119 => (if t119.toList = bt113.1.toList then ((Go.Proofs.YtdbheoffkfmcpaaDoor.K.width_Fits.f k bt107.1 (rd y102 (Int.tmod a2 5))).bind fun t120 => (if t120 = true then (if bt109.2 = true then ((Hd.numOf.f bt109.1).bind fun t121 => (if t121.toList = bt117.1.toList then ((Go.Proofs.YtdbheoffkfmcpaaDoor.K.width_Fits.f k bt109.1 (rd y102 (Int.tmod a2 5))).bind fun t122 => (reredoslaw02_WidthExact.j0 k a0 a1 t101 t106 bt107.1 bt107.2 bt109.1 bt109.2 (!t122))) else (reredoslaw02_WidthExact.j0 k a0 a1 t101 t106 bt107.1 bt107.2 bt109.1 bt109.2 true))) else (reredoslaw02_WidthExact.j0 k a0 a1 t101 t106 bt107.1 bt107.2 bt109.1 bt109.2 false)) else (reredoslaw02_WidthExact.j0 k a0 a1 t101 t106 bt107.1 bt107.2 bt109.1 bt109.2 true))) else (reredoslaw02_WidthExact.j0 k a0 a1 t101 t106 bt107.1 bt107.2 bt109.1 bt109.2 true))) else (if bt109.2 = true then ((Hd.numOf.f bt109.1).bind fun t123 => (if t123.toList = bt117.1.toList then ((Go.Proofs.YtdbheoffkfmcpaaDoor.K.width_Fits.f k bt109.1 (rd y102 (Int.tmod a2 5))).bind fun t124 => (reredoslaw02_WidthExact.j0 k a0 a1 t101 t106 bt107.1 bt107.2 bt109.1 bt109.2 (!t124))) else (reredoslaw02_WidthExact.j0 k a0 a1 t101 t106 bt107.1 bt107.2 bt109.1 bt109.2 true))) else (reredoslaw02_WidthExact.j0 k a0 a1 t101 t106 bt107.1 bt107.2 bt109.1 bt109.2 false)))))))))))) else (none)) else (none)))) = some r := h
  clear h
  replace H := Option.bind_eq_some_iff.mp H
  obtain ⟨t101, A40, H⟩ := H
  replace H : ((some (([8, 16, 32, 64, 128] : List Int) : List Int)).bind fun y102 => (if 0 ≤ (Int.tmod a2 5) then (if (Int.tmod a2 5) < (y102.length : Int) then ((Hd.widthNext.f (rd y102 (Int.tmod a2 5))).bind fun t106 => ((Go.Proofs.YtdbheoffkfmcpaaDoor.K.width_Mul.f k a0 a1 (rd y102 (Int.tmod a2 5))).bind fun bt107 => ((Go.Proofs.YtdbheoffkfmcpaaDoor.K.width_Add.f k a0 a1 (rd y102 (Int.tmod a2 5))).bind fun bt109 => ((Hd.numOf.f a0).bind fun t111 => ((Hd.numOf.f a1).bind fun t112 => ((L.num_Mul.f k t111 t112).bind fun bt113 => ((Hd.numOf.f a0).bind fun t115 => ((Hd.numOf.f a1).bind fun t116 => ((L.num_Add.f k t115 t116).bind fun bt117 => (if bt107.2 = true then ((Hd.numOf.f bt107.1).bind fun t119 => (if t119.toList = bt113.1.toList then ((Go.Proofs.YtdbheoffkfmcpaaDoor.K.width_Fits.f k bt107.1 (rd y102 (Int.tmod a2 5))).bind fun t120 => (if t120 = true then (if bt109.2 = true then ((Hd.numOf.f bt109.1).bind fun t121 => (if t121.toList = bt117.1.toList then ((Go.Proofs.YtdbheoffkfmcpaaDoor.K.width_Fits.f k bt109.1 (rd y102 (Int.tmod a2 5))).bind fun t122 => (reredoslaw02_WidthExact.j0 k a0 a1 t101 t106 bt107.1 bt107.2 bt109.1 bt109.2 (!t122))) else (reredoslaw02_WidthExact.j0 k a0 a1 t101 t106 bt107.1 bt107.2 bt109.1 bt109.2 true))) else (reredoslaw02_WidthExact.j0 k a0 a1 t101 t106 bt107.1 bt107.2 bt109.1 bt109.2 false)) else (reredoslaw02_WidthExact.j0 k a0 a1 t101 t106 bt107.1 bt107.2 bt109.1 bt109.2 true))) else (reredoslaw02_WidthExact.j0 k a0 a1 t101 t106 bt107.1 bt107.2 bt109.1 bt109.2 true))) else (if bt109.2 = true then ((Hd.numOf.f bt109.1).bind fun t123 => (if t123.toList = bt117.1.toList then ((Go.Proofs.YtdbheoffkfmcpaaDoor.K.width_Fits.f k bt109.1 (rd y102 (Int.tmod a2 5))).bind fun t124 => (reredoslaw02_WidthExact.j0 k a0 a1 t101 t106 bt107.1 bt107.2 bt109.1 bt109.2 (!t124))) else (reredoslaw02_WidthExact.j0 k a0 a1 t101 t106 bt107.1 bt107.2 bt109.1 bt109.2 true))) else (reredoslaw02_WidthExact.j0 k a0 a1 t101 t106 bt107.1 bt107.2 bt109.1 bt109.2 false)))))))))))) else (none)) else (none))) = some r := H
  have A4 := Aside0.mk A40
  clear A40
  obtain ⟨y102, hy102⟩ : ∃ y_ : List Int, y_ = (([8, 16, 32, 64, 128] : List Int)) := ⟨_, rfl⟩
  replace H : (if 0 ≤ (Int.tmod a2 5) then (if (Int.tmod a2 5) < (y102.length : Int) then ((Hd.widthNext.f (rd y102 (Int.tmod a2 5))).bind fun t106 => ((Go.Proofs.YtdbheoffkfmcpaaDoor.K.width_Mul.f k a0 a1 (rd y102 (Int.tmod a2 5))).bind fun bt107 => ((Go.Proofs.YtdbheoffkfmcpaaDoor.K.width_Add.f k a0 a1 (rd y102 (Int.tmod a2 5))).bind fun bt109 => ((Hd.numOf.f a0).bind fun t111 => ((Hd.numOf.f a1).bind fun t112 => ((L.num_Mul.f k t111 t112).bind fun bt113 => ((Hd.numOf.f a0).bind fun t115 => ((Hd.numOf.f a1).bind fun t116 => ((L.num_Add.f k t115 t116).bind fun bt117 => (if bt107.2 = true then ((Hd.numOf.f bt107.1).bind fun t119 => (if t119.toList = bt113.1.toList then ((Go.Proofs.YtdbheoffkfmcpaaDoor.K.width_Fits.f k bt107.1 (rd y102 (Int.tmod a2 5))).bind fun t120 => (if t120 = true then (if bt109.2 = true then ((Hd.numOf.f bt109.1).bind fun t121 => (if t121.toList = bt117.1.toList then ((Go.Proofs.YtdbheoffkfmcpaaDoor.K.width_Fits.f k bt109.1 (rd y102 (Int.tmod a2 5))).bind fun t122 => (reredoslaw02_WidthExact.j0 k a0 a1 t101 t106 bt107.1 bt107.2 bt109.1 bt109.2 (!t122))) else (reredoslaw02_WidthExact.j0 k a0 a1 t101 t106 bt107.1 bt107.2 bt109.1 bt109.2 true))) else (reredoslaw02_WidthExact.j0 k a0 a1 t101 t106 bt107.1 bt107.2 bt109.1 bt109.2 false)) else (reredoslaw02_WidthExact.j0 k a0 a1 t101 t106 bt107.1 bt107.2 bt109.1 bt109.2 true))) else (reredoslaw02_WidthExact.j0 k a0 a1 t101 t106 bt107.1 bt107.2 bt109.1 bt109.2 true))) else (if bt109.2 = true then ((Hd.numOf.f bt109.1).bind fun t123 => (if t123.toList = bt117.1.toList then ((Go.Proofs.YtdbheoffkfmcpaaDoor.K.width_Fits.f k bt109.1 (rd y102 (Int.tmod a2 5))).bind fun t124 => (reredoslaw02_WidthExact.j0 k a0 a1 t101 t106 bt107.1 bt107.2 bt109.1 bt109.2 (!t124))) else (reredoslaw02_WidthExact.j0 k a0 a1 t101 t106 bt107.1 bt107.2 bt109.1 bt109.2 true))) else (reredoslaw02_WidthExact.j0 k a0 a1 t101 t106 bt107.1 bt107.2 bt109.1 bt109.2 false)))))))))))) else (none)) else (none)) = some r := by first | (rw [hy102]; with_reducible exact H) | (have H2_ := (Option.bind_some _ _).symm.trans H; rw [hy102]; with_reducible exact H2_) | (have H2_ := (Option.bind_some _ _).symm.trans H; with_reducible exact H2_) | with_reducible exact H | (rw [hy102]; exact H) | exact H
  have Ny102 := Aside0.mk hy102
  clear hy102
  obtain ⟨ji5, hji5⟩ : ∃ j_ : Int, (Int.tmod a2 5) = j_ := ⟨_, rfl⟩
  replace H : (if 0 ≤ (ji5) then (if (ji5) < (y102.length : Int) then ((Hd.widthNext.f (rd y102 (ji5))).bind fun t106 => ((Go.Proofs.YtdbheoffkfmcpaaDoor.K.width_Mul.f k a0 a1 (rd y102 (ji5))).bind fun bt107 => ((Go.Proofs.YtdbheoffkfmcpaaDoor.K.width_Add.f k a0 a1 (rd y102 (ji5))).bind fun bt109 => ((Hd.numOf.f a0).bind fun t111 => ((Hd.numOf.f a1).bind fun t112 => ((L.num_Mul.f k t111 t112).bind fun bt113 => ((Hd.numOf.f a0).bind fun t115 => ((Hd.numOf.f a1).bind fun t116 => ((L.num_Add.f k t115 t116).bind fun bt117 => (if bt107.2 = true then ((Hd.numOf.f bt107.1).bind fun t119 => (if t119.toList = bt113.1.toList then ((Go.Proofs.YtdbheoffkfmcpaaDoor.K.width_Fits.f k bt107.1 (rd y102 (ji5))).bind fun t120 => (if t120 = true then (if bt109.2 = true then ((Hd.numOf.f bt109.1).bind fun t121 => (if t121.toList = bt117.1.toList then ((Go.Proofs.YtdbheoffkfmcpaaDoor.K.width_Fits.f k bt109.1 (rd y102 (ji5))).bind fun t122 => (reredoslaw02_WidthExact.j0 k a0 a1 t101 t106 bt107.1 bt107.2 bt109.1 bt109.2 (!t122))) else (reredoslaw02_WidthExact.j0 k a0 a1 t101 t106 bt107.1 bt107.2 bt109.1 bt109.2 true))) else (reredoslaw02_WidthExact.j0 k a0 a1 t101 t106 bt107.1 bt107.2 bt109.1 bt109.2 false)) else (reredoslaw02_WidthExact.j0 k a0 a1 t101 t106 bt107.1 bt107.2 bt109.1 bt109.2 true))) else (reredoslaw02_WidthExact.j0 k a0 a1 t101 t106 bt107.1 bt107.2 bt109.1 bt109.2 true))) else (if bt109.2 = true then ((Hd.numOf.f bt109.1).bind fun t123 => (if t123.toList = bt117.1.toList then ((Go.Proofs.YtdbheoffkfmcpaaDoor.K.width_Fits.f k bt109.1 (rd y102 (ji5))).bind fun t124 => (reredoslaw02_WidthExact.j0 k a0 a1 t101 t106 bt107.1 bt107.2 bt109.1 bt109.2 (!t124))) else (reredoslaw02_WidthExact.j0 k a0 a1 t101 t106 bt107.1 bt107.2 bt109.1 bt109.2 true))) else (reredoslaw02_WidthExact.j0 k a0 a1 t101 t106 bt107.1 bt107.2 bt109.1 bt109.2 false)))))))))))) else (none)) else (none)) = some r := by first | (rw [hji5] at H; exact H) | (simp only [hji5] at H ⊢; exact H)
  (try rw [hji5] at A4)
  by_cases c6 : 0 ≤ (ji5)
  · rw [if_pos c6] at H
    have c6b0 : decide (0 ≤ (ji5)) = true := decide_eq_true c6
    clear c6
    by_cases c7 : (ji5) < (y102.length : Int)
    · rw [if_pos c7] at H
      have c7b0 : decide ((ji5) < (y102.length : Int)) = true := decide_eq_true c7
      clear c7
      replace H := Option.bind_eq_some_iff.mp H
      obtain ⟨t106, A80, H⟩ := H
      replace H : ((Go.Proofs.YtdbheoffkfmcpaaDoor.K.width_Mul.f k a0 a1 (rd y102 (ji5))).bind fun bt107 => ((Go.Proofs.YtdbheoffkfmcpaaDoor.K.width_Add.f k a0 a1 (rd y102 (ji5))).bind fun bt109 => ((Hd.numOf.f a0).bind fun t111 => ((Hd.numOf.f a1).bind fun t112 => ((L.num_Mul.f k t111 t112).bind fun bt113 => ((Hd.numOf.f a0).bind fun t115 => ((Hd.numOf.f a1).bind fun t116 => ((L.num_Add.f k t115 t116).bind fun bt117 => (if bt107.2 = true then ((Hd.numOf.f bt107.1).bind fun t119 => (if t119.toList = bt113.1.toList then ((Go.Proofs.YtdbheoffkfmcpaaDoor.K.width_Fits.f k bt107.1 (rd y102 (ji5))).bind fun t120 => (if t120 = true then (if bt109.2 = true then ((Hd.numOf.f bt109.1).bind fun t121 => (if t121.toList = bt117.1.toList then ((Go.Proofs.YtdbheoffkfmcpaaDoor.K.width_Fits.f k bt109.1 (rd y102 (ji5))).bind fun t122 => (reredoslaw02_WidthExact.j0 k a0 a1 t101 t106 bt107.1 bt107.2 bt109.1 bt109.2 (!t122))) else (reredoslaw02_WidthExact.j0 k a0 a1 t101 t106 bt107.1 bt107.2 bt109.1 bt109.2 true))) else (reredoslaw02_WidthExact.j0 k a0 a1 t101 t106 bt107.1 bt107.2 bt109.1 bt109.2 false)) else (reredoslaw02_WidthExact.j0 k a0 a1 t101 t106 bt107.1 bt107.2 bt109.1 bt109.2 true))) else (reredoslaw02_WidthExact.j0 k a0 a1 t101 t106 bt107.1 bt107.2 bt109.1 bt109.2 true))) else (if bt109.2 = true then ((Hd.numOf.f bt109.1).bind fun t123 => (if t123.toList = bt117.1.toList then ((Go.Proofs.YtdbheoffkfmcpaaDoor.K.width_Fits.f k bt109.1 (rd y102 (ji5))).bind fun t124 => (reredoslaw02_WidthExact.j0 k a0 a1 t101 t106 bt107.1 bt107.2 bt109.1 bt109.2 (!t124))) else (reredoslaw02_WidthExact.j0 k a0 a1 t101 t106 bt107.1 bt107.2 bt109.1 bt109.2 true))) else (reredoslaw02_WidthExact.j0 k a0 a1 t101 t106 bt107.1 bt107.2 bt109.1 bt109.2 false))))))))))) = some r := H
      have A8 := Aside0.mk A80
      clear A80
      replace H := Option.bind_eq_some_iff.mp H
      obtain ⟨⟨t107, t108⟩, A90, H⟩ := H
      replace H : ((Go.Proofs.YtdbheoffkfmcpaaDoor.K.width_Add.f k a0 a1 (rd y102 (ji5))).bind fun bt109 => ((Hd.numOf.f a0).bind fun t111 => ((Hd.numOf.f a1).bind fun t112 => ((L.num_Mul.f k t111 t112).bind fun bt113 => ((Hd.numOf.f a0).bind fun t115 => ((Hd.numOf.f a1).bind fun t116 => ((L.num_Add.f k t115 t116).bind fun bt117 => (if t108 = true then ((Hd.numOf.f t107).bind fun t119 => (if t119.toList = bt113.1.toList then ((Go.Proofs.YtdbheoffkfmcpaaDoor.K.width_Fits.f k t107 (rd y102 (ji5))).bind fun t120 => (if t120 = true then (if bt109.2 = true then ((Hd.numOf.f bt109.1).bind fun t121 => (if t121.toList = bt117.1.toList then ((Go.Proofs.YtdbheoffkfmcpaaDoor.K.width_Fits.f k bt109.1 (rd y102 (ji5))).bind fun t122 => (reredoslaw02_WidthExact.j0 k a0 a1 t101 t106 t107 t108 bt109.1 bt109.2 (!t122))) else (reredoslaw02_WidthExact.j0 k a0 a1 t101 t106 t107 t108 bt109.1 bt109.2 true))) else (reredoslaw02_WidthExact.j0 k a0 a1 t101 t106 t107 t108 bt109.1 bt109.2 false)) else (reredoslaw02_WidthExact.j0 k a0 a1 t101 t106 t107 t108 bt109.1 bt109.2 true))) else (reredoslaw02_WidthExact.j0 k a0 a1 t101 t106 t107 t108 bt109.1 bt109.2 true))) else (if bt109.2 = true then ((Hd.numOf.f bt109.1).bind fun t123 => (if t123.toList = bt117.1.toList then ((Go.Proofs.YtdbheoffkfmcpaaDoor.K.width_Fits.f k bt109.1 (rd y102 (ji5))).bind fun t124 => (reredoslaw02_WidthExact.j0 k a0 a1 t101 t106 t107 t108 bt109.1 bt109.2 (!t124))) else (reredoslaw02_WidthExact.j0 k a0 a1 t101 t106 t107 t108 bt109.1 bt109.2 true))) else (reredoslaw02_WidthExact.j0 k a0 a1 t101 t106 t107 t108 bt109.1 bt109.2 false)))))))))) = some r := H
      have A9 := Aside0.mk A90
      clear A90
      replace H := Option.bind_eq_some_iff.mp H
      obtain ⟨⟨t109, t110⟩, A100, H⟩ := H
      replace H : ((Hd.numOf.f a0).bind fun t111 => ((Hd.numOf.f a1).bind fun t112 => ((L.num_Mul.f k t111 t112).bind fun bt113 => ((Hd.numOf.f a0).bind fun t115 => ((Hd.numOf.f a1).bind fun t116 => ((L.num_Add.f k t115 t116).bind fun bt117 => (if t108 = true then ((Hd.numOf.f t107).bind fun t119 => (if t119.toList = bt113.1.toList then ((Go.Proofs.YtdbheoffkfmcpaaDoor.K.width_Fits.f k t107 (rd y102 (ji5))).bind fun t120 => (if t120 = true then (if t110 = true then ((Hd.numOf.f t109).bind fun t121 => (if t121.toList = bt117.1.toList then ((Go.Proofs.YtdbheoffkfmcpaaDoor.K.width_Fits.f k t109 (rd y102 (ji5))).bind fun t122 => (reredoslaw02_WidthExact.j0 k a0 a1 t101 t106 t107 t108 t109 t110 (!t122))) else (reredoslaw02_WidthExact.j0 k a0 a1 t101 t106 t107 t108 t109 t110 true))) else (reredoslaw02_WidthExact.j0 k a0 a1 t101 t106 t107 t108 t109 t110 false)) else (reredoslaw02_WidthExact.j0 k a0 a1 t101 t106 t107 t108 t109 t110 true))) else (reredoslaw02_WidthExact.j0 k a0 a1 t101 t106 t107 t108 t109 t110 true))) else (if t110 = true then ((Hd.numOf.f t109).bind fun t123 => (if t123.toList = bt117.1.toList then ((Go.Proofs.YtdbheoffkfmcpaaDoor.K.width_Fits.f k t109 (rd y102 (ji5))).bind fun t124 => (reredoslaw02_WidthExact.j0 k a0 a1 t101 t106 t107 t108 t109 t110 (!t124))) else (reredoslaw02_WidthExact.j0 k a0 a1 t101 t106 t107 t108 t109 t110 true))) else (reredoslaw02_WidthExact.j0 k a0 a1 t101 t106 t107 t108 t109 t110 false))))))))) = some r := H
      have A10 := Aside0.mk A100
      clear A100
      replace H := Option.bind_eq_some_iff.mp H
      obtain ⟨t111, A110, H⟩ := H
      replace H : ((Hd.numOf.f a1).bind fun t112 => ((L.num_Mul.f k t111 t112).bind fun bt113 => ((Hd.numOf.f a0).bind fun t115 => ((Hd.numOf.f a1).bind fun t116 => ((L.num_Add.f k t115 t116).bind fun bt117 => (if t108 = true then ((Hd.numOf.f t107).bind fun t119 => (if t119.toList = bt113.1.toList then ((Go.Proofs.YtdbheoffkfmcpaaDoor.K.width_Fits.f k t107 (rd y102 (ji5))).bind fun t120 => (if t120 = true then (if t110 = true then ((Hd.numOf.f t109).bind fun t121 => (if t121.toList = bt117.1.toList then ((Go.Proofs.YtdbheoffkfmcpaaDoor.K.width_Fits.f k t109 (rd y102 (ji5))).bind fun t122 => (reredoslaw02_WidthExact.j0 k a0 a1 t101 t106 t107 t108 t109 t110 (!t122))) else (reredoslaw02_WidthExact.j0 k a0 a1 t101 t106 t107 t108 t109 t110 true))) else (reredoslaw02_WidthExact.j0 k a0 a1 t101 t106 t107 t108 t109 t110 false)) else (reredoslaw02_WidthExact.j0 k a0 a1 t101 t106 t107 t108 t109 t110 true))) else (reredoslaw02_WidthExact.j0 k a0 a1 t101 t106 t107 t108 t109 t110 true))) else (if t110 = true then ((Hd.numOf.f t109).bind fun t123 => (if t123.toList = bt117.1.toList then ((Go.Proofs.YtdbheoffkfmcpaaDoor.K.width_Fits.f k t109 (rd y102 (ji5))).bind fun t124 => (reredoslaw02_WidthExact.j0 k a0 a1 t101 t106 t107 t108 t109 t110 (!t124))) else (reredoslaw02_WidthExact.j0 k a0 a1 t101 t106 t107 t108 t109 t110 true))) else (reredoslaw02_WidthExact.j0 k a0 a1 t101 t106 t107 t108 t109 t110 false)))))))) = some r := H
      have A11 := Aside0.mk A110
      clear A110
      replace H := Option.bind_eq_some_iff.mp H
      obtain ⟨t112, A120, H⟩ := H
      replace H : ((L.num_Mul.f k t111 t112).bind fun bt113 => ((Hd.numOf.f a0).bind fun t115 => ((Hd.numOf.f a1).bind fun t116 => ((L.num_Add.f k t115 t116).bind fun bt117 => (if t108 = true then ((Hd.numOf.f t107).bind fun t119 => (if t119.toList = bt113.1.toList then ((Go.Proofs.YtdbheoffkfmcpaaDoor.K.width_Fits.f k t107 (rd y102 (ji5))).bind fun t120 => (if t120 = true then (if t110 = true then ((Hd.numOf.f t109).bind fun t121 => (if t121.toList = bt117.1.toList then ((Go.Proofs.YtdbheoffkfmcpaaDoor.K.width_Fits.f k t109 (rd y102 (ji5))).bind fun t122 => (reredoslaw02_WidthExact.j0 k a0 a1 t101 t106 t107 t108 t109 t110 (!t122))) else (reredoslaw02_WidthExact.j0 k a0 a1 t101 t106 t107 t108 t109 t110 true))) else (reredoslaw02_WidthExact.j0 k a0 a1 t101 t106 t107 t108 t109 t110 false)) else (reredoslaw02_WidthExact.j0 k a0 a1 t101 t106 t107 t108 t109 t110 true))) else (reredoslaw02_WidthExact.j0 k a0 a1 t101 t106 t107 t108 t109 t110 true))) else (if t110 = true then ((Hd.numOf.f t109).bind fun t123 => (if t123.toList = bt117.1.toList then ((Go.Proofs.YtdbheoffkfmcpaaDoor.K.width_Fits.f k t109 (rd y102 (ji5))).bind fun t124 => (reredoslaw02_WidthExact.j0 k a0 a1 t101 t106 t107 t108 t109 t110 (!t124))) else (reredoslaw02_WidthExact.j0 k a0 a1 t101 t106 t107 t108 t109 t110 true))) else (reredoslaw02_WidthExact.j0 k a0 a1 t101 t106 t107 t108 t109 t110 false))))))) = some r := H
      have A12 := Aside0.mk A120
      clear A120
      replace H := Option.bind_eq_some_iff.mp H
      obtain ⟨⟨t113, t114⟩, A130, H⟩ := H
      replace H : ((Hd.numOf.f a0).bind fun t115 => ((Hd.numOf.f a1).bind fun t116 => ((L.num_Add.f k t115 t116).bind fun bt117 => (if t108 = true then ((Hd.numOf.f t107).bind fun t119 => (if t119.toList = t113.toList then ((Go.Proofs.YtdbheoffkfmcpaaDoor.K.width_Fits.f k t107 (rd y102 (ji5))).bind fun t120 => (if t120 = true then (if t110 = true then ((Hd.numOf.f t109).bind fun t121 => (if t121.toList = bt117.1.toList then ((Go.Proofs.YtdbheoffkfmcpaaDoor.K.width_Fits.f k t109 (rd y102 (ji5))).bind fun t122 => (reredoslaw02_WidthExact.j0 k a0 a1 t101 t106 t107 t108 t109 t110 (!t122))) else (reredoslaw02_WidthExact.j0 k a0 a1 t101 t106 t107 t108 t109 t110 true))) else (reredoslaw02_WidthExact.j0 k a0 a1 t101 t106 t107 t108 t109 t110 false)) else (reredoslaw02_WidthExact.j0 k a0 a1 t101 t106 t107 t108 t109 t110 true))) else (reredoslaw02_WidthExact.j0 k a0 a1 t101 t106 t107 t108 t109 t110 true))) else (if t110 = true then ((Hd.numOf.f t109).bind fun t123 => (if t123.toList = bt117.1.toList then ((Go.Proofs.YtdbheoffkfmcpaaDoor.K.width_Fits.f k t109 (rd y102 (ji5))).bind fun t124 => (reredoslaw02_WidthExact.j0 k a0 a1 t101 t106 t107 t108 t109 t110 (!t124))) else (reredoslaw02_WidthExact.j0 k a0 a1 t101 t106 t107 t108 t109 t110 true))) else (reredoslaw02_WidthExact.j0 k a0 a1 t101 t106 t107 t108 t109 t110 false)))))) = some r := H
      have A13 := Aside0.mk A130
      clear A130
      replace H := Option.bind_eq_some_iff.mp H
      obtain ⟨t115, A140, H⟩ := H
      replace H : ((Hd.numOf.f a1).bind fun t116 => ((L.num_Add.f k t115 t116).bind fun bt117 => (if t108 = true then ((Hd.numOf.f t107).bind fun t119 => (if t119.toList = t113.toList then ((Go.Proofs.YtdbheoffkfmcpaaDoor.K.width_Fits.f k t107 (rd y102 (ji5))).bind fun t120 => (if t120 = true then (if t110 = true then ((Hd.numOf.f t109).bind fun t121 => (if t121.toList = bt117.1.toList then ((Go.Proofs.YtdbheoffkfmcpaaDoor.K.width_Fits.f k t109 (rd y102 (ji5))).bind fun t122 => (reredoslaw02_WidthExact.j0 k a0 a1 t101 t106 t107 t108 t109 t110 (!t122))) else (reredoslaw02_WidthExact.j0 k a0 a1 t101 t106 t107 t108 t109 t110 true))) else (reredoslaw02_WidthExact.j0 k a0 a1 t101 t106 t107 t108 t109 t110 false)) else (reredoslaw02_WidthExact.j0 k a0 a1 t101 t106 t107 t108 t109 t110 true))) else (reredoslaw02_WidthExact.j0 k a0 a1 t101 t106 t107 t108 t109 t110 true))) else (if t110 = true then ((Hd.numOf.f t109).bind fun t123 => (if t123.toList = bt117.1.toList then ((Go.Proofs.YtdbheoffkfmcpaaDoor.K.width_Fits.f k t109 (rd y102 (ji5))).bind fun t124 => (reredoslaw02_WidthExact.j0 k a0 a1 t101 t106 t107 t108 t109 t110 (!t124))) else (reredoslaw02_WidthExact.j0 k a0 a1 t101 t106 t107 t108 t109 t110 true))) else (reredoslaw02_WidthExact.j0 k a0 a1 t101 t106 t107 t108 t109 t110 false))))) = some r := H
      have A14 := Aside0.mk A140
      clear A140
      replace H := Option.bind_eq_some_iff.mp H
      obtain ⟨t116, A150, H⟩ := H
      replace H : ((L.num_Add.f k t115 t116).bind fun bt117 => (if t108 = true then ((Hd.numOf.f t107).bind fun t119 => (if t119.toList = t113.toList then ((Go.Proofs.YtdbheoffkfmcpaaDoor.K.width_Fits.f k t107 (rd y102 (ji5))).bind fun t120 => (if t120 = true then (if t110 = true then ((Hd.numOf.f t109).bind fun t121 => (if t121.toList = bt117.1.toList then ((Go.Proofs.YtdbheoffkfmcpaaDoor.K.width_Fits.f k t109 (rd y102 (ji5))).bind fun t122 => (reredoslaw02_WidthExact.j0 k a0 a1 t101 t106 t107 t108 t109 t110 (!t122))) else (reredoslaw02_WidthExact.j0 k a0 a1 t101 t106 t107 t108 t109 t110 true))) else (reredoslaw02_WidthExact.j0 k a0 a1 t101 t106 t107 t108 t109 t110 false)) else (reredoslaw02_WidthExact.j0 k a0 a1 t101 t106 t107 t108 t109 t110 true))) else (reredoslaw02_WidthExact.j0 k a0 a1 t101 t106 t107 t108 t109 t110 true))) else (if t110 = true then ((Hd.numOf.f t109).bind fun t123 => (if t123.toList = bt117.1.toList then ((Go.Proofs.YtdbheoffkfmcpaaDoor.K.width_Fits.f k t109 (rd y102 (ji5))).bind fun t124 => (reredoslaw02_WidthExact.j0 k a0 a1 t101 t106 t107 t108 t109 t110 (!t124))) else (reredoslaw02_WidthExact.j0 k a0 a1 t101 t106 t107 t108 t109 t110 true))) else (reredoslaw02_WidthExact.j0 k a0 a1 t101 t106 t107 t108 t109 t110 false)))) = some r := H
      have A15 := Aside0.mk A150
      clear A150
      replace H := Option.bind_eq_some_iff.mp H
      obtain ⟨⟨t117, t118⟩, A160, H⟩ := H
      replace H : (if t108 = true then ((Hd.numOf.f t107).bind fun t119 => (if t119.toList = t113.toList then ((Go.Proofs.YtdbheoffkfmcpaaDoor.K.width_Fits.f k t107 (rd y102 (ji5))).bind fun t120 => (if t120 = true then (if t110 = true then ((Hd.numOf.f t109).bind fun t121 => (if t121.toList = t117.toList then ((Go.Proofs.YtdbheoffkfmcpaaDoor.K.width_Fits.f k t109 (rd y102 (ji5))).bind fun t122 => (reredoslaw02_WidthExact.j0 k a0 a1 t101 t106 t107 t108 t109 t110 (!t122))) else (reredoslaw02_WidthExact.j0 k a0 a1 t101 t106 t107 t108 t109 t110 true))) else (reredoslaw02_WidthExact.j0 k a0 a1 t101 t106 t107 t108 t109 t110 false)) else (reredoslaw02_WidthExact.j0 k a0 a1 t101 t106 t107 t108 t109 t110 true))) else (reredoslaw02_WidthExact.j0 k a0 a1 t101 t106 t107 t108 t109 t110 true))) else (if t110 = true then ((Hd.numOf.f t109).bind fun t123 => (if t123.toList = t117.toList then ((Go.Proofs.YtdbheoffkfmcpaaDoor.K.width_Fits.f k t109 (rd y102 (ji5))).bind fun t124 => (reredoslaw02_WidthExact.j0 k a0 a1 t101 t106 t107 t108 t109 t110 (!t124))) else (reredoslaw02_WidthExact.j0 k a0 a1 t101 t106 t107 t108 t109 t110 true))) else (reredoslaw02_WidthExact.j0 k a0 a1 t101 t106 t107 t108 t109 t110 false))) = some r := H
      have A16 := Aside0.mk A160
      clear A160
      have HC17 := Aside0.mk H
      clear H
      go_enter Tryd.func8, Tryd.ntmps8
      go_upto_region 9 with (first | ((with_reducible refine gate_callee (f := 13) rfl ?_); refine goesL_ (some 23) rfl rfl Tryd.func13 (by kernel_rfl) rfl #[] rfl (by (try simp only [List.map_toArray, List.map_cons, List.map_nil]); first | done | rfl | (simp only [List.length_drop, List.length_take]; rfl)) ?_; (with_reducible refine (LS.reredoslaw02_shown.calls k  t101 _ ?side1 A4.out).mono ?_); (case side1 => refine Hd.GL.below HGL.out ?_; repeat (first | (with_reducible first | exact HB.out | apply below_alloc | apply pw_below_drewN | apply below_drew1) | exact HB.out)); rintro e w18 ⟨rfl, hb⟩; refine ⟨_, rfl, ?_⟩; have n0_ := Aside0.mk (below_step (by repeat (first | (with_reducible first | exact HB.out | apply below_alloc | apply pw_below_drewN | apply below_drew1) | exact HB.out)) hb); clear HB; have HB := n0_; clear n0_; (try clear hb); (try clear hb2); (try clear hk); (try clear hi)) | ((with_reducible refine gate_dst (N := 24) rfl ?_); refine Kd.R_lit (Kd.int .i64) _ 3 ?hg (N := 24) ?hd (xs := ([8, 16, 32, 64, 128] : List Int)) (inner := [.int .i64 8, .int .i64 16, .int .i64 32, .int .i64 64, .int .i64 128]) (ok := fun _ => True) (okp := fun _ => True) ?hr ?hp (fun _ hk => hk) trivial (Below.refl _ _) (Nat.le_refl _) (by simp) ?_; (case hd => rfl); (case hg => rfl); (case hr => first | (go_simp; done) | (go_simp; rfl)); (case hp => exact (Reps.one (show Kd.M (Kd.int .i64) _ _ _ 8 [.int .i64 8] from rfl) (Reps.one (show Kd.M (Kd.int .i64) _ _ _ 16 [.int .i64 16] from rfl) (Reps.one (show Kd.M (Kd.int .i64) _ _ _ 32 [.int .i64 32] from rfl) (Reps.one (show Kd.M (Kd.int .i64) _ _ _ 64 [.int .i64 64] from rfl) (Reps.one (show Kd.M (Kd.int .i64) _ _ _ 128 [.int .i64 128] from rfl) (Reps.none _ _))))))); intro v103 w19 ho20 hb hg_ hnew_; clear hg_ hnew_; (first | rw [← Ny102.out] at ho20 | (simp only [Int.reduceToNat] at ho20; rw [← Ny102.out] at ho20)); have n0_ := Aside0.mk (Kd.R_lower ho20 (below_size (by repeat (first | (with_reducible first | exact HB.out | apply below_alloc | apply pw_below_drewN | apply below_drew1) | exact HB.out)))); have n1_ := Aside0.mk (below_step (by repeat (first | (with_reducible first | exact HB.out | apply below_alloc | apply pw_below_drewN | apply below_drew1) | exact HB.out)) hb); clear HB; have HO104 := n0_; have HB := n1_; clear n0_ n1_; clear hb ho20; obtain ⟨Ao21, co21, eo21⟩ := Kd.R_slice HO104.out; subst eo21; have p105 : 0 ≤ ((ji5) : Int) := of_decide_eq_true (by first | (with_reducible assumption) | assumption); have q105 : (ji5) < (y102.length : Int) := of_decide_eq_true (by first | (with_reducible assumption) | assumption); obtain ⟨ad105, e105, hx105_0⟩ := Kd.at_int (Kd.R_reads' HO104.out).2.2 (ji5) p105 q105; cases e105; replace p105 := eq_true p105; replace q105 := eq_true q105) | ((with_reducible refine gate_callee (f := 25) rfl ?_); refine goesL_ (some 31) rfl rfl Tryd.func25 (by kernel_rfl) rfl #[.int .i64 (rd y102 (ji5))] rfl (by (try simp only [List.map_toArray, List.map_cons, List.map_nil]); first | done | (simp only [hji5]; rfl) | rfl | (simp only [List.length_drop, List.length_take]; rfl)) ?_; (with_reducible refine (Hd.widthNext.calls (rd y102 (ji5)) t106 _ A8.out).mono ?_); rintro e w22 ⟨rfl, hb⟩; refine ⟨_, rfl, ?_⟩; have n0_ := Aside0.mk (Kd.R_below (by (with_reducible repeat (first | apply Kd.R_alloc | apply Kd.R_drewN | apply Kd.R_drew)); exact HO104.out) hb); have n1_ := Aside0.mk (below_step (by repeat (first | (with_reducible first | exact HB.out | apply below_alloc | apply pw_below_drewN | apply below_drew1) | exact HB.out)) hb); clear HO104; clear HB; have HO104 := n0_; have HB := n1_; clear n0_ n1_; (try clear hb); (try clear hb2); (try clear hk); (try clear hi)) | ((with_reducible refine gate_callee (f := 20) rfl ?_); refine goesL_ (some 36) rfl rfl Tryd.func20 (by kernel_rfl) rfl #[.int .i64 a0, .int .i64 a1, .int .i64 (rd y102 (ji5))] rfl (by (try simp only [List.map_toArray, List.map_cons, List.map_nil]); first | done | (simp only [hji5]; rfl) | rfl | (simp only [List.length_drop, List.length_take]; rfl)) ?_; (with_reducible refine (Go.Proofs.YtdbheoffkfmcpaaDoor.K.width_Mul.calls k a0 a1 (rd y102 (ji5)) t107 t108 _ A9.out).mono ?_); rintro e w' ⟨rfl, ⟨nd, rfl⟩⟩; refine ⟨_, rfl, ?_⟩) | ((with_reducible refine gate_callee (f := 17) rfl ?_); refine goesL_ (some 43) rfl rfl Tryd.func17 (by kernel_rfl) rfl #[.int .i64 a0, .int .i64 a1, .int .i64 (rd y102 (ji5))] rfl (by (try simp only [List.map_toArray, List.map_cons, List.map_nil]); first | done | (simp only [hji5]; rfl) | rfl | (simp only [List.length_drop, List.length_take]; rfl)) ?_; (with_reducible refine (Go.Proofs.YtdbheoffkfmcpaaDoor.K.width_Add.calls k a0 a1 (rd y102 (ji5)) t109 t110 _ A10.out).mono ?_); rintro e w' ⟨rfl, ⟨nd, rfl⟩⟩; refine ⟨_, rfl, ?_⟩) | ((with_reducible refine gate_callee (f := 15) rfl ?_); refine goesL_ (some 48) rfl rfl Tryd.func15 (by kernel_rfl) rfl #[.int .i64 a0] rfl (by (try simp only [List.map_toArray, List.map_cons, List.map_nil]); first | done | rfl | (simp only [List.length_drop, List.length_take]; rfl)) ?_; (with_reducible refine (Hd.numOf.calls a0 t111 _ ?side1 A11.out).mono ?_); (case side1 => refine Hd.GL.below HGL.out ?_; repeat (first | (with_reducible first | exact HB.out | apply below_alloc | apply pw_below_drewN | apply below_drew1) | exact HB.out)); rintro e w23 ⟨rfl, hb⟩; refine ⟨_, rfl, ?_⟩; have n0_ := Aside0.mk (Kd.R_below (by (with_reducible repeat (first | apply Kd.R_alloc | apply Kd.R_drewN | apply Kd.R_drew)); exact HO104.out) hb); have n1_ := Aside0.mk (below_step (by repeat (first | (with_reducible first | exact HB.out | apply below_alloc | apply pw_below_drewN | apply below_drew1) | exact HB.out)) hb); clear HO104; clear HB; have HO104 := n0_; have HB := n1_; clear n0_ n1_; (try clear hb); (try clear hb2); (try clear hk); (try clear hi)) | ((with_reducible refine gate_callee (f := 15) rfl ?_); refine goesL_ (some 50) rfl rfl Tryd.func15 (by kernel_rfl) rfl #[.int .i64 a1] rfl (by (try simp only [List.map_toArray, List.map_cons, List.map_nil]); first | done | rfl | (simp only [List.length_drop, List.length_take]; rfl)) ?_; (with_reducible refine (Hd.numOf.calls a1 t112 _ ?side1 A12.out).mono ?_); (case side1 => refine Hd.GL.below HGL.out ?_; repeat (first | (with_reducible first | exact HB.out | apply below_alloc | apply pw_below_drewN | apply below_drew1) | exact HB.out)); rintro e w24 ⟨rfl, hb⟩; refine ⟨_, rfl, ?_⟩; have n0_ := Aside0.mk (Kd.R_below (by (with_reducible repeat (first | apply Kd.R_alloc | apply Kd.R_drewN | apply Kd.R_drew)); exact HO104.out) hb); have n1_ := Aside0.mk (below_step (by repeat (first | (with_reducible first | exact HB.out | apply below_alloc | apply pw_below_drewN | apply below_drew1) | exact HB.out)) hb); clear HO104; clear HB; have HO104 := n0_; have HB := n1_; clear n0_ n1_; (try clear hb); (try clear hb2); (try clear hk); (try clear hi)) | ((with_reducible refine gate_callee (f := 28) rfl ?_); refine goesL_ (some 51) rfl rfl Tryd.func28 (by kernel_rfl) rfl #[.string t111, .string t112] rfl (by (try simp only [List.map_toArray, List.map_cons, List.map_nil]); first | done | rfl | (simp only [List.length_drop, List.length_take]; rfl)) ?_; (with_reducible refine (L.num_Mul.calls k t111 t112 t113 t114 _ ?side1 A13.out).mono ?_); (case side1 => refine Hd.GL.below HGL.out ?_; repeat (first | (with_reducible first | exact HB.out | apply below_alloc | apply pw_below_drewN | apply below_drew1) | exact HB.out)); rintro e w25 ⟨rfl, hb⟩; refine ⟨_, rfl, ?_⟩; have n0_ := Aside0.mk (Kd.R_below (by (with_reducible repeat (first | apply Kd.R_alloc | apply Kd.R_drewN | apply Kd.R_drew)); exact HO104.out) hb); have n1_ := Aside0.mk (below_step (by repeat (first | (with_reducible first | exact HB.out | apply below_alloc | apply pw_below_drewN | apply below_drew1) | exact HB.out)) hb); clear HO104; clear HB; have HO104 := n0_; have HB := n1_; clear n0_ n1_; (try clear hb); (try clear hb2); (try clear hk); (try clear hi)) | ((with_reducible refine gate_callee (f := 15) rfl ?_); refine goesL_ (some 56) rfl rfl Tryd.func15 (by kernel_rfl) rfl #[.int .i64 a0] rfl (by (try simp only [List.map_toArray, List.map_cons, List.map_nil]); first | done | rfl | (simp only [List.length_drop, List.length_take]; rfl)) ?_; (with_reducible refine (Hd.numOf.calls a0 t115 _ ?side1 A14.out).mono ?_); (case side1 => refine Hd.GL.below HGL.out ?_; repeat (first | (with_reducible first | exact HB.out | apply below_alloc | apply pw_below_drewN | apply below_drew1) | exact HB.out)); rintro e w26 ⟨rfl, hb⟩; refine ⟨_, rfl, ?_⟩; have n0_ := Aside0.mk (Kd.R_below (by (with_reducible repeat (first | apply Kd.R_alloc | apply Kd.R_drewN | apply Kd.R_drew)); exact HO104.out) hb); have n1_ := Aside0.mk (below_step (by repeat (first | (with_reducible first | exact HB.out | apply below_alloc | apply pw_below_drewN | apply below_drew1) | exact HB.out)) hb); clear HO104; clear HB; have HO104 := n0_; have HB := n1_; clear n0_ n1_; (try clear hb); (try clear hb2); (try clear hk); (try clear hi)) | ((with_reducible refine gate_callee (f := 15) rfl ?_); refine goesL_ (some 58) rfl rfl Tryd.func15 (by kernel_rfl) rfl #[.int .i64 a1] rfl (by (try simp only [List.map_toArray, List.map_cons, List.map_nil]); first | done | rfl | (simp only [List.length_drop, List.length_take]; rfl)) ?_; (with_reducible refine (Hd.numOf.calls a1 t116 _ ?side1 A15.out).mono ?_); (case side1 => refine Hd.GL.below HGL.out ?_; repeat (first | (with_reducible first | exact HB.out | apply below_alloc | apply pw_below_drewN | apply below_drew1) | exact HB.out)); rintro e w27 ⟨rfl, hb⟩; refine ⟨_, rfl, ?_⟩; have n0_ := Aside0.mk (Kd.R_below (by (with_reducible repeat (first | apply Kd.R_alloc | apply Kd.R_drewN | apply Kd.R_drew)); exact HO104.out) hb); have n1_ := Aside0.mk (below_step (by repeat (first | (with_reducible first | exact HB.out | apply below_alloc | apply pw_below_drewN | apply below_drew1) | exact HB.out)) hb); clear HO104; clear HB; have HO104 := n0_; have HB := n1_; clear n0_ n1_; (try clear hb); (try clear hb2); (try clear hk); (try clear hi)) | ((with_reducible refine gate_callee (f := 29) rfl ?_); refine goesL_ (some 59) rfl rfl Tryd.func29 (by kernel_rfl) rfl #[.string t115, .string t116] rfl (by (try simp only [List.map_toArray, List.map_cons, List.map_nil]); first | done | rfl | (simp only [List.length_drop, List.length_take]; rfl)) ?_; (with_reducible refine (L.num_Add.calls k t115 t116 t117 t118 _ ?side1 A16.out).mono ?_); (case side1 => refine Hd.GL.below HGL.out ?_; repeat (first | (with_reducible first | exact HB.out | apply below_alloc | apply pw_below_drewN | apply below_drew1) | exact HB.out)); rintro e w28 ⟨rfl, hb⟩; refine ⟨_, rfl, ?_⟩; have n0_ := Aside0.mk (Kd.R_below (by (with_reducible repeat (first | apply Kd.R_alloc | apply Kd.R_drewN | apply Kd.R_drew)); exact HO104.out) hb); have n1_ := Aside0.mk (below_step (by repeat (first | (with_reducible first | exact HB.out | apply below_alloc | apply pw_below_drewN | apply below_drew1) | exact HB.out)) hb); clear HO104; clear HB; have HO104 := n0_; have HB := n1_; clear n0_ n1_; (try clear hb); (try clear hb2); (try clear hk); (try clear hi)))
      (try simp only [Act.put, List.setIfInBounds_toArray, List.set_cons_zero, List.set_cons_succ])
      go_cut [89] (fun v89 wc => ∃ (kq : Nat) (x89_16 : Bool), v89 = .bool x89_16 ∧ Aside0 (reredoslaw02_WidthExact.j0 kq a0 a1 t101 t106 t107 t108 t109 t110 x89_16 = some r) ∧ Aside0 (kq ≤ k) ∧ Aside0 (Below w.heap.size w wc))
      case first =>
        have H := HC17.out
        clear HC17
        by_cases c29 : t108 = true
        · subst c29
          have H1 : ((Hd.numOf.f t107).bind fun t119 => (if t119.toList = t113.toList then ((Go.Proofs.YtdbheoffkfmcpaaDoor.K.width_Fits.f k t107 (rd y102 (ji5))).bind fun t120 => (if t120 = true then (if t110 = true then ((Hd.numOf.f t109).bind fun t121 => (if t121.toList = t117.toList then ((Go.Proofs.YtdbheoffkfmcpaaDoor.K.width_Fits.f k t109 (rd y102 (ji5))).bind fun t122 => (reredoslaw02_WidthExact.j0 k a0 a1 t101 t106 t107 true t109 t110 (!t122))) else (reredoslaw02_WidthExact.j0 k a0 a1 t101 t106 t107 true t109 t110 true))) else (reredoslaw02_WidthExact.j0 k a0 a1 t101 t106 t107 true t109 t110 false)) else (reredoslaw02_WidthExact.j0 k a0 a1 t101 t106 t107 true t109 t110 true))) else (reredoslaw02_WidthExact.j0 k a0 a1 t101 t106 t107 true t109 t110 true))) = some r := by rw [if_pos rfl] at H; exact H
          clear H
          have H := H1
          clear H1
          replace H := Option.bind_eq_some_iff.mp H
          obtain ⟨t119, A300, H⟩ := H
          replace H : (if t119.toList = t113.toList then ((Go.Proofs.YtdbheoffkfmcpaaDoor.K.width_Fits.f k t107 (rd y102 (ji5))).bind fun t120 => (if t120 = true then (if t110 = true then ((Hd.numOf.f t109).bind fun t121 => (if t121.toList = t117.toList then ((Go.Proofs.YtdbheoffkfmcpaaDoor.K.width_Fits.f k t109 (rd y102 (ji5))).bind fun t122 => (reredoslaw02_WidthExact.j0 k a0 a1 t101 t106 t107 true t109 t110 (!t122))) else (reredoslaw02_WidthExact.j0 k a0 a1 t101 t106 t107 true t109 t110 true))) else (reredoslaw02_WidthExact.j0 k a0 a1 t101 t106 t107 true t109 t110 false)) else (reredoslaw02_WidthExact.j0 k a0 a1 t101 t106 t107 true t109 t110 true))) else (reredoslaw02_WidthExact.j0 k a0 a1 t101 t106 t107 true t109 t110 true)) = some r := H
          have A30 := Aside0.mk A300
          clear A300
          by_cases c31 : t119.toList = t113.toList
          · rw [if_pos c31] at H
            have c31b0 : (t119.toList == t113.toList) = true := beq_iff_eq.mpr c31
            have c31b1 : (t119.toList != t113.toList) = false := bne_eq_false_iff_eq.mpr c31
            clear c31
            (first | rw [c31b0] | (simp only [i64_w, i32_w]; rw [c31b0]) | skip)
            replace H := Option.bind_eq_some_iff.mp H
            obtain ⟨t120, A320, H⟩ := H
            replace H : (if t120 = true then (if t110 = true then ((Hd.numOf.f t109).bind fun t121 => (if t121.toList = t117.toList then ((Go.Proofs.YtdbheoffkfmcpaaDoor.K.width_Fits.f k t109 (rd y102 (ji5))).bind fun t122 => (reredoslaw02_WidthExact.j0 k a0 a1 t101 t106 t107 true t109 t110 (!t122))) else (reredoslaw02_WidthExact.j0 k a0 a1 t101 t106 t107 true t109 t110 true))) else (reredoslaw02_WidthExact.j0 k a0 a1 t101 t106 t107 true t109 t110 false)) else (reredoslaw02_WidthExact.j0 k a0 a1 t101 t106 t107 true t109 t110 true)) = some r := H
            have A32 := Aside0.mk A320
            clear A320
            by_cases c33 : t120 = true
            · subst c33
              have H1 : (if t110 = true then ((Hd.numOf.f t109).bind fun t121 => (if t121.toList = t117.toList then ((Go.Proofs.YtdbheoffkfmcpaaDoor.K.width_Fits.f k t109 (rd y102 (ji5))).bind fun t122 => (reredoslaw02_WidthExact.j0 k a0 a1 t101 t106 t107 true t109 t110 (!t122))) else (reredoslaw02_WidthExact.j0 k a0 a1 t101 t106 t107 true t109 t110 true))) else (reredoslaw02_WidthExact.j0 k a0 a1 t101 t106 t107 true t109 t110 false)) = some r := by rw [if_pos rfl] at H; exact H
              clear H
              have H := H1
              clear H1
              by_cases c34 : t110 = true
              · subst c34
                have H1 : ((Hd.numOf.f t109).bind fun t121 => (if t121.toList = t117.toList then ((Go.Proofs.YtdbheoffkfmcpaaDoor.K.width_Fits.f k t109 (rd y102 (ji5))).bind fun t122 => (reredoslaw02_WidthExact.j0 k a0 a1 t101 t106 t107 true t109 true (!t122))) else (reredoslaw02_WidthExact.j0 k a0 a1 t101 t106 t107 true t109 true true))) = some r := by rw [if_pos rfl] at H; exact H
                clear H
                have H := H1
                clear H1
                replace H := Option.bind_eq_some_iff.mp H
                obtain ⟨t121, A350, H⟩ := H
                replace H : (if t121.toList = t117.toList then ((Go.Proofs.YtdbheoffkfmcpaaDoor.K.width_Fits.f k t109 (rd y102 (ji5))).bind fun t122 => (reredoslaw02_WidthExact.j0 k a0 a1 t101 t106 t107 true t109 true (!t122))) else (reredoslaw02_WidthExact.j0 k a0 a1 t101 t106 t107 true t109 true true)) = some r := H
                have A35 := Aside0.mk A350
                clear A350
                by_cases c36 : t121.toList = t117.toList
                · rw [if_pos c36] at H
                  have c36b0 : (t121.toList == t117.toList) = true := beq_iff_eq.mpr c36
                  have c36b1 : (t121.toList != t117.toList) = false := bne_eq_false_iff_eq.mpr c36
                  clear c36
                  replace H := Option.bind_eq_some_iff.mp H
                  obtain ⟨t122, A370, H⟩ := H
                  replace H : (reredoslaw02_WidthExact.j0 k a0 a1 t101 t106 t107 true t109 true (!t122)) = some r := H
                  have A37 := Aside0.mk A370
                  clear A370
                  have H' := Aside0.mk H
                  clear H
                  go_wp2_with (first | (go_at_call 15; (with_reducible refine (Hd.numOf.calls t107 t119 _ ?side1 A30.out).mono ?_); (case side1 => refine Hd.GL.below HGL.out ?_; repeat (first | (with_reducible first | exact HB.out | apply below_alloc | apply pw_below_drewN | apply below_drew1) | exact HB.out)); rintro e w38 ⟨rfl, hb⟩; have n0_ := Aside0.mk (Kd.R_below (by (with_reducible repeat (first | apply Kd.R_alloc | apply Kd.R_drewN | apply Kd.R_drew)); exact HO104.out) hb); have n1_ := Aside0.mk (below_step (by repeat (first | (with_reducible first | exact HB.out | apply below_alloc | apply pw_below_drewN | apply below_drew1) | exact HB.out)) hb); clear HO104; clear HB; have HO104 := n0_; have HB := n1_; clear n0_ n1_; (try clear hb); (try clear hb2); (try clear hk); (try clear hi)) | (go_at_call 16; (with_reducible refine (Go.Proofs.YtdbheoffkfmcpaaDoor.K.width_Fits.calls k t107 (rd y102 (ji5)) true _ A32.out).mono ?_); rintro e w' ⟨rfl, ⟨nd, rfl⟩⟩) | (go_at_call 15; (with_reducible refine (Hd.numOf.calls t109 t121 _ ?side1 A35.out).mono ?_); (case side1 => refine Hd.GL.below HGL.out ?_; repeat (first | (with_reducible first | exact HB.out | apply below_alloc | apply pw_below_drewN | apply below_drew1) | exact HB.out)); rintro e w39 ⟨rfl, hb⟩; have n0_ := Aside0.mk (Kd.R_below (by (with_reducible repeat (first | apply Kd.R_alloc | apply Kd.R_drewN | apply Kd.R_drew)); exact HO104.out) hb); have n1_ := Aside0.mk (below_step (by repeat (first | (with_reducible first | exact HB.out | apply below_alloc | apply pw_below_drewN | apply below_drew1) | exact HB.out)) hb); clear HO104; clear HB; have HO104 := n0_; have HB := n1_; clear n0_ n1_; (try clear hb); (try clear hb2); (try clear hk); (try clear hi)) | (go_at_call 16; (with_reducible refine (Go.Proofs.YtdbheoffkfmcpaaDoor.K.width_Fits.calls k t109 (rd y102 (ji5)) t122 _ A37.out).mono ?_); rintro e w' ⟨rfl, ⟨nd, rfl⟩⟩))
                  go_meet
                  case rel => exact ⟨_, (!t122), (by first | rfl | (simp; done) | (simp [*]; done)), H', ⟨by first | omega | exact Nat.le_refl _⟩, ⟨by repeat (first | (with_reducible first | exact HB.out | apply below_alloc | apply pw_below_drewN | apply below_drew1) | exact HB.out)⟩⟩
                · rw [if_neg c36] at H
                  have c36b0 : (t121.toList == t117.toList) = false := beq_eq_false_iff_ne.mpr c36
                  have c36b1 : (t121.toList != t117.toList) = true := bne_iff_ne.mpr c36
                  have H' := Aside0.mk H
                  clear H
                  go_wp2_with (first | (go_at_call 15; (with_reducible refine (Hd.numOf.calls t107 t119 _ ?side1 A30.out).mono ?_); (case side1 => refine Hd.GL.below HGL.out ?_; repeat (first | (with_reducible first | exact HB.out | apply below_alloc | apply pw_below_drewN | apply below_drew1) | exact HB.out)); rintro e w40 ⟨rfl, hb⟩; have n0_ := Aside0.mk (Kd.R_below (by (with_reducible repeat (first | apply Kd.R_alloc | apply Kd.R_drewN | apply Kd.R_drew)); exact HO104.out) hb); have n1_ := Aside0.mk (below_step (by repeat (first | (with_reducible first | exact HB.out | apply below_alloc | apply pw_below_drewN | apply below_drew1) | exact HB.out)) hb); clear HO104; clear HB; have HO104 := n0_; have HB := n1_; clear n0_ n1_; (try clear hb); (try clear hb2); (try clear hk); (try clear hi)) | (go_at_call 16; (with_reducible refine (Go.Proofs.YtdbheoffkfmcpaaDoor.K.width_Fits.calls k t107 (rd y102 (ji5)) true _ A32.out).mono ?_); rintro e w' ⟨rfl, ⟨nd, rfl⟩⟩) | (go_at_call 15; (with_reducible refine (Hd.numOf.calls t109 t121 _ ?side1 A35.out).mono ?_); (case side1 => refine Hd.GL.below HGL.out ?_; repeat (first | (with_reducible first | exact HB.out | apply below_alloc | apply pw_below_drewN | apply below_drew1) | exact HB.out)); rintro e w41 ⟨rfl, hb⟩; have n0_ := Aside0.mk (Kd.R_below (by (with_reducible repeat (first | apply Kd.R_alloc | apply Kd.R_drewN | apply Kd.R_drew)); exact HO104.out) hb); have n1_ := Aside0.mk (below_step (by repeat (first | (with_reducible first | exact HB.out | apply below_alloc | apply pw_below_drewN | apply below_drew1) | exact HB.out)) hb); clear HO104; clear HB; have HO104 := n0_; have HB := n1_; clear n0_ n1_; (try clear hb); (try clear hb2); (try clear hk); (try clear hi)))
                  go_meet
                  case rel => exact ⟨_, (true), (by first | rfl | (simp; done) | (simp [*]; done)), H', ⟨by first | omega | exact Nat.le_refl _⟩, ⟨by repeat (first | (with_reducible first | exact HB.out | apply below_alloc | apply pw_below_drewN | apply below_drew1) | exact HB.out)⟩⟩
              · replace c34 := Bool.eq_false_iff.mpr c34
                subst c34
                have H1 : (reredoslaw02_WidthExact.j0 k a0 a1 t101 t106 t107 true t109 false false) = some r := by rw [if_neg (show ¬ (false = true) by decide)] at H; exact H
                clear H
                have H := H1
                clear H1
                have H' := Aside0.mk H
                clear H
                go_wp2_with (first | (go_at_call 15; (with_reducible refine (Hd.numOf.calls t107 t119 _ ?side1 A30.out).mono ?_); (case side1 => refine Hd.GL.below HGL.out ?_; repeat (first | (with_reducible first | exact HB.out | apply below_alloc | apply pw_below_drewN | apply below_drew1) | exact HB.out)); rintro e w42 ⟨rfl, hb⟩; have n0_ := Aside0.mk (Kd.R_below (by (with_reducible repeat (first | apply Kd.R_alloc | apply Kd.R_drewN | apply Kd.R_drew)); exact HO104.out) hb); have n1_ := Aside0.mk (below_step (by repeat (first | (with_reducible first | exact HB.out | apply below_alloc | apply pw_below_drewN | apply below_drew1) | exact HB.out)) hb); clear HO104; clear HB; have HO104 := n0_; have HB := n1_; clear n0_ n1_; (try clear hb); (try clear hb2); (try clear hk); (try clear hi)) | (go_at_call 16; (with_reducible refine (Go.Proofs.YtdbheoffkfmcpaaDoor.K.width_Fits.calls k t107 (rd y102 (ji5)) true _ A32.out).mono ?_); rintro e w' ⟨rfl, ⟨nd, rfl⟩⟩))
                go_meet
                case rel => exact ⟨_, (false), (by first | rfl | (simp; done) | (simp [*]; done)), H', ⟨by first | omega | exact Nat.le_refl _⟩, ⟨by repeat (first | (with_reducible first | exact HB.out | apply below_alloc | apply pw_below_drewN | apply below_drew1) | exact HB.out)⟩⟩
            · replace c33 := Bool.eq_false_iff.mpr c33
              subst c33
              have H1 : (reredoslaw02_WidthExact.j0 k a0 a1 t101 t106 t107 true t109 t110 true) = some r := by rw [if_neg (show ¬ (false = true) by decide)] at H; exact H
              clear H
              have H := H1
              clear H1
              have H' := Aside0.mk H
              clear H
              go_wp2_with (first | (go_at_call 15; (with_reducible refine (Hd.numOf.calls t107 t119 _ ?side1 A30.out).mono ?_); (case side1 => refine Hd.GL.below HGL.out ?_; repeat (first | (with_reducible first | exact HB.out | apply below_alloc | apply pw_below_drewN | apply below_drew1) | exact HB.out)); rintro e w43 ⟨rfl, hb⟩; have n0_ := Aside0.mk (Kd.R_below (by (with_reducible repeat (first | apply Kd.R_alloc | apply Kd.R_drewN | apply Kd.R_drew)); exact HO104.out) hb); have n1_ := Aside0.mk (below_step (by repeat (first | (with_reducible first | exact HB.out | apply below_alloc | apply pw_below_drewN | apply below_drew1) | exact HB.out)) hb); clear HO104; clear HB; have HO104 := n0_; have HB := n1_; clear n0_ n1_; (try clear hb); (try clear hb2); (try clear hk); (try clear hi)) | (go_at_call 16; (with_reducible refine (Go.Proofs.YtdbheoffkfmcpaaDoor.K.width_Fits.calls k t107 (rd y102 (ji5)) false _ A32.out).mono ?_); rintro e w' ⟨rfl, ⟨nd, rfl⟩⟩))
              go_meet
              case rel => exact ⟨_, (true), (by first | rfl | (simp; done) | (simp [*]; done)), H', ⟨by first | omega | exact Nat.le_refl _⟩, ⟨by repeat (first | (with_reducible first | exact HB.out | apply below_alloc | apply pw_below_drewN | apply below_drew1) | exact HB.out)⟩⟩
          · rw [if_neg c31] at H
            have c31b0 : (t119.toList == t113.toList) = false := beq_eq_false_iff_ne.mpr c31
            have c31b1 : (t119.toList != t113.toList) = true := bne_iff_ne.mpr c31
            (first | rw [c31b0] | (simp only [i64_w, i32_w]; rw [c31b0]) | skip)
            have H' := Aside0.mk H
            clear H
            go_wp2_with (first | (go_at_call 15; (with_reducible refine (Hd.numOf.calls t107 t119 _ ?side1 A30.out).mono ?_); (case side1 => refine Hd.GL.below HGL.out ?_; repeat (first | (with_reducible first | exact HB.out | apply below_alloc | apply pw_below_drewN | apply below_drew1) | exact HB.out)); rintro e w44 ⟨rfl, hb⟩; have n0_ := Aside0.mk (Kd.R_below (by (with_reducible repeat (first | apply Kd.R_alloc | apply Kd.R_drewN | apply Kd.R_drew)); exact HO104.out) hb); have n1_ := Aside0.mk (below_step (by repeat (first | (with_reducible first | exact HB.out | apply below_alloc | apply pw_below_drewN | apply below_drew1) | exact HB.out)) hb); clear HO104; clear HB; have HO104 := n0_; have HB := n1_; clear n0_ n1_; (try clear hb); (try clear hb2); (try clear hk); (try clear hi)))
            go_meet
            case rel => exact ⟨_, (true), (by first | rfl | (simp; done) | (simp [*]; done)), H', ⟨by first | omega | exact Nat.le_refl _⟩, ⟨by repeat (first | (with_reducible first | exact HB.out | apply below_alloc | apply pw_below_drewN | apply below_drew1) | exact HB.out)⟩⟩
        · replace c29 := Bool.eq_false_iff.mpr c29
          subst c29
          have H1 : (if t110 = true then ((Hd.numOf.f t109).bind fun t123 => (if t123.toList = t117.toList then ((Go.Proofs.YtdbheoffkfmcpaaDoor.K.width_Fits.f k t109 (rd y102 (ji5))).bind fun t124 => (reredoslaw02_WidthExact.j0 k a0 a1 t101 t106 t107 false t109 t110 (!t124))) else (reredoslaw02_WidthExact.j0 k a0 a1 t101 t106 t107 false t109 t110 true))) else (reredoslaw02_WidthExact.j0 k a0 a1 t101 t106 t107 false t109 t110 false)) = some r := by rw [if_neg (show ¬ (false = true) by decide)] at H; exact H
          clear H
          have H := H1
          clear H1
          by_cases c45 : t110 = true
          · subst c45
            have H1 : ((Hd.numOf.f t109).bind fun t123 => (if t123.toList = t117.toList then ((Go.Proofs.YtdbheoffkfmcpaaDoor.K.width_Fits.f k t109 (rd y102 (ji5))).bind fun t124 => (reredoslaw02_WidthExact.j0 k a0 a1 t101 t106 t107 false t109 true (!t124))) else (reredoslaw02_WidthExact.j0 k a0 a1 t101 t106 t107 false t109 true true))) = some r := by rw [if_pos rfl] at H; exact H
            clear H
            have H := H1
            clear H1
            replace H := Option.bind_eq_some_iff.mp H
            obtain ⟨t123, A460, H⟩ := H
            replace H : (if t123.toList = t117.toList then ((Go.Proofs.YtdbheoffkfmcpaaDoor.K.width_Fits.f k t109 (rd y102 (ji5))).bind fun t124 => (reredoslaw02_WidthExact.j0 k a0 a1 t101 t106 t107 false t109 true (!t124))) else (reredoslaw02_WidthExact.j0 k a0 a1 t101 t106 t107 false t109 true true)) = some r := H
            have A46 := Aside0.mk A460
            clear A460
            by_cases c47 : t123.toList = t117.toList
            · rw [if_pos c47] at H
              have c47b0 : (t123.toList == t117.toList) = true := beq_iff_eq.mpr c47
              have c47b1 : (t123.toList != t117.toList) = false := bne_eq_false_iff_eq.mpr c47
              clear c47
              replace H := Option.bind_eq_some_iff.mp H
              obtain ⟨t124, A480, H⟩ := H
              replace H : (reredoslaw02_WidthExact.j0 k a0 a1 t101 t106 t107 false t109 true (!t124)) = some r := H
              have A48 := Aside0.mk A480
              clear A480
              have H' := Aside0.mk H
              clear H
              go_wp2_with (first | (go_at_call 15; (with_reducible refine (Hd.numOf.calls t109 t123 _ ?side1 A46.out).mono ?_); (case side1 => refine Hd.GL.below HGL.out ?_; repeat (first | (with_reducible first | exact HB.out | apply below_alloc | apply pw_below_drewN | apply below_drew1) | exact HB.out)); rintro e w49 ⟨rfl, hb⟩; have n0_ := Aside0.mk (Kd.R_below (by (with_reducible repeat (first | apply Kd.R_alloc | apply Kd.R_drewN | apply Kd.R_drew)); exact HO104.out) hb); have n1_ := Aside0.mk (below_step (by repeat (first | (with_reducible first | exact HB.out | apply below_alloc | apply pw_below_drewN | apply below_drew1) | exact HB.out)) hb); clear HO104; clear HB; have HO104 := n0_; have HB := n1_; clear n0_ n1_; (try clear hb); (try clear hb2); (try clear hk); (try clear hi)) | (go_at_call 16; (with_reducible refine (Go.Proofs.YtdbheoffkfmcpaaDoor.K.width_Fits.calls k t109 (rd y102 (ji5)) t124 _ A48.out).mono ?_); rintro e w' ⟨rfl, ⟨nd, rfl⟩⟩))
              go_meet
              case rel => exact ⟨_, (!t124), (by first | rfl | (simp; done) | (simp [*]; done)), H', ⟨by first | omega | exact Nat.le_refl _⟩, ⟨by repeat (first | (with_reducible first | exact HB.out | apply below_alloc | apply pw_below_drewN | apply below_drew1) | exact HB.out)⟩⟩
            · rw [if_neg c47] at H
              have c47b0 : (t123.toList == t117.toList) = false := beq_eq_false_iff_ne.mpr c47
              have c47b1 : (t123.toList != t117.toList) = true := bne_iff_ne.mpr c47
              have H' := Aside0.mk H
              clear H
              go_wp2_with (first | (go_at_call 15; (with_reducible refine (Hd.numOf.calls t109 t123 _ ?side1 A46.out).mono ?_); (case side1 => refine Hd.GL.below HGL.out ?_; repeat (first | (with_reducible first | exact HB.out | apply below_alloc | apply pw_below_drewN | apply below_drew1) | exact HB.out)); rintro e w50 ⟨rfl, hb⟩; have n0_ := Aside0.mk (Kd.R_below (by (with_reducible repeat (first | apply Kd.R_alloc | apply Kd.R_drewN | apply Kd.R_drew)); exact HO104.out) hb); have n1_ := Aside0.mk (below_step (by repeat (first | (with_reducible first | exact HB.out | apply below_alloc | apply pw_below_drewN | apply below_drew1) | exact HB.out)) hb); clear HO104; clear HB; have HO104 := n0_; have HB := n1_; clear n0_ n1_; (try clear hb); (try clear hb2); (try clear hk); (try clear hi)))
              go_meet
              case rel => exact ⟨_, (true), (by first | rfl | (simp; done) | (simp [*]; done)), H', ⟨by first | omega | exact Nat.le_refl _⟩, ⟨by repeat (first | (with_reducible first | exact HB.out | apply below_alloc | apply pw_below_drewN | apply below_drew1) | exact HB.out)⟩⟩
          · replace c45 := Bool.eq_false_iff.mpr c45
            subst c45
            have H1 : (reredoslaw02_WidthExact.j0 k a0 a1 t101 t106 t107 false t109 false false) = some r := by rw [if_neg (show ¬ (false = true) by decide)] at H; exact H
            clear H
            have H := H1
            clear H1
            have H' := Aside0.mk H
            clear H
            go_wp2
            go_meet
            case rel => exact ⟨_, (false), (by first | rfl | (simp; done) | (simp [*]; done)), H', ⟨by first | omega | exact Nat.le_refl _⟩, ⟨by repeat (first | (with_reducible first | exact HB.out | apply below_alloc | apply pw_below_drewN | apply below_drew1) | exact HB.out)⟩⟩
      case rest =>
        clear HC17
        try clear c1
        try clear p1
        try clear q1
        try clear hx1
        try clear c2
        try clear p2
        try clear c3
        try clear c4
        try clear c6
        try clear c6b0
        try clear c7
        try clear c7b0
        try clear c8
        try clear p10
        try clear q10
        try clear hx10
        try clear c13
        try clear c15
        try clear c17
        try clear c20
        try clear c25
        try clear c28
        try clear c29
        try clear c31
        try clear c31b0
        try clear c31b1
        try clear c33
        try clear c34
        try clear c36
        try clear c36b0
        try clear c36b1
        try clear c45
        try clear c47
        try clear c47b0
        try clear c47b1
        try clear hx105_0
        try clear p105
        try clear q105
        obtain ⟨kq, x89_16, rfl, HA, HJ16, HB⟩ := hcut
        cases kq with
        | zero => exact absurd HA.out (by simp [reredoslaw02_WidthExact.j0])
        | succ kj16 =>
          have H := HA.out
          clear HA
          simp only [reredoslaw02_WidthExact.j0] at H
          by_cases c51 : x89_16 = true
          · subst c51
            have H1 : (some false) = some r := by rw [if_pos rfl] at H; exact H
            clear H
            have H := H1
            clear H1
            obtain rfl := Option.some.inj H
            go_wp2
            go_ret
            exact ⟨by first | rfl | (simp [errW_none, errW_some] <;> rfl) | (simp only [← hji5]; first | rfl | (simp [errW_none, errW_some] <;> rfl)) | (simp [*, errW_none, errW_some] <;> rfl), by repeat (first | (with_reducible first | exact HB.out | apply below_alloc | apply pw_below_drewN | apply below_drew1) | exact HB.out)⟩
          · replace c51 := Bool.eq_false_iff.mpr c51
            subst c51
            have H1 : ((Go.Proofs.YtdbheoffkfmcpaaDoor.K.width_Mul.f kj16 a0 a1 t106).bind fun bt125 => ((Go.Proofs.YtdbheoffkfmcpaaDoor.K.width_Add.f kj16 a0 a1 t106).bind fun bt127 => (if t101 = true then (if t108 = true then (if bt125.2 = true then (if bt125.1 = t107 then (if t110 = true then (if bt127.2 = true then (some (bt127.1 == t109)) else (some false)) else (some true)) else (some false)) else (some false)) else (if t110 = true then (if bt127.2 = true then (some (bt127.1 == t109)) else (some false)) else (some true))) else (some false)))) = some r := by rw [if_neg (show ¬ (false = true) by decide)] at H; exact H
            clear H
            have H := H1
            clear H1
            replace H := Option.bind_eq_some_iff.mp H
            obtain ⟨⟨t125, t126⟩, A520, H⟩ := H
            replace H : ((Go.Proofs.YtdbheoffkfmcpaaDoor.K.width_Add.f kj16 a0 a1 t106).bind fun bt127 => (if t101 = true then (if t108 = true then (if t126 = true then (if t125 = t107 then (if t110 = true then (if bt127.2 = true then (some (bt127.1 == t109)) else (some false)) else (some true)) else (some false)) else (some false)) else (if t110 = true then (if bt127.2 = true then (some (bt127.1 == t109)) else (some false)) else (some true))) else (some false))) = some r := H
            have A52 := Aside0.mk A520
            clear A520
            replace H := Option.bind_eq_some_iff.mp H
            obtain ⟨⟨t127, t128⟩, A530, H⟩ := H
            replace H : (if t101 = true then (if t108 = true then (if t126 = true then (if t125 = t107 then (if t110 = true then (if t128 = true then (some (t127 == t109)) else (some false)) else (some true)) else (some false)) else (some false)) else (if t110 = true then (if t128 = true then (some (t127 == t109)) else (some false)) else (some true))) else (some false)) = some r := H
            have A53 := Aside0.mk A530
            clear A530
            by_cases c54 : t101 = true
            · subst c54
              have H1 : (if t108 = true then (if t126 = true then (if t125 = t107 then (if t110 = true then (if t128 = true then (some (t127 == t109)) else (some false)) else (some true)) else (some false)) else (some false)) else (if t110 = true then (if t128 = true then (some (t127 == t109)) else (some false)) else (some true))) = some r := by rw [if_pos rfl] at H; exact H
              clear H
              have H := H1
              clear H1
              by_cases c55 : t108 = true
              · subst c55
                have H1 : (if t126 = true then (if t125 = t107 then (if t110 = true then (if t128 = true then (some (t127 == t109)) else (some false)) else (some true)) else (some false)) else (some false)) = some r := by rw [if_pos rfl] at H; exact H
                clear H
                have H := H1
                clear H1
                by_cases c56 : t126 = true
                · subst c56
                  have H1 : (if t125 = t107 then (if t110 = true then (if t128 = true then (some (t127 == t109)) else (some false)) else (some true)) else (some false)) = some r := by rw [if_pos rfl] at H; exact H
                  clear H
                  have H := H1
                  clear H1
                  by_cases c57 : t125 = t107
                  · rw [if_pos c57] at H
                    have c57b0 : (t125 == t107) = true := beq_iff_eq.mpr c57
                    have c57b1 : (t125 != t107) = false := bne_eq_false_iff_eq.mpr c57
                    clear c57
                    by_cases c58 : t110 = true
                    · subst c58
                      have H1 : (if t128 = true then (some (t127 == t109)) else (some false)) = some r := by rw [if_pos rfl] at H; exact H
                      clear H
                      have H := H1
                      clear H1
                      by_cases c59 : t128 = true
                      · subst c59
                        have H1 : (some (t127 == t109)) = some r := by rw [if_pos rfl] at H; exact H
                        clear H
                        have H := H1
                        clear H1
                        obtain rfl := Option.some.inj H
                        go_wp2_with (first | ((with_reducible refine gate_callee (f := 20) rfl ?_); refine goesL_ (some 94) rfl rfl Tryd.func20 (by kernel_rfl) rfl #[.int .i64 a0, .int .i64 a1, .int .i64 t106] rfl (by (try simp only [List.map_toArray, List.map_cons, List.map_nil]); first | done | rfl | (simp only [List.length_drop, List.length_take]; rfl)) ?_; (with_reducible refine (Go.Proofs.YtdbheoffkfmcpaaDoor.K.width_Mul.calls kj16 a0 a1 t106 t125 true _ A52.out).mono ?_); rintro e w' ⟨rfl, ⟨nd, rfl⟩⟩; refine ⟨_, rfl, ?_⟩) | ((with_reducible refine gate_callee (f := 17) rfl ?_); refine goesL_ (some 101) rfl rfl Tryd.func17 (by kernel_rfl) rfl #[.int .i64 a0, .int .i64 a1, .int .i64 t106] rfl (by (try simp only [List.map_toArray, List.map_cons, List.map_nil]); first | done | rfl | (simp only [List.length_drop, List.length_take]; rfl)) ?_; (with_reducible refine (Go.Proofs.YtdbheoffkfmcpaaDoor.K.width_Add.calls kj16 a0 a1 t106 t127 true _ A53.out).mono ?_); rintro e w' ⟨rfl, ⟨nd, rfl⟩⟩; refine ⟨_, rfl, ?_⟩))
                        go_ret
                        exact ⟨by first | rfl | (simp [errW_none, errW_some] <;> rfl) | (simp only [← hji5]; first | rfl | (simp [errW_none, errW_some] <;> rfl)) | (simp [*, errW_none, errW_some] <;> rfl), by repeat (first | (with_reducible first | exact HB.out | apply below_alloc | apply pw_below_drewN | apply below_drew1) | exact HB.out)⟩
                      · replace c59 := Bool.eq_false_iff.mpr c59
                        subst c59
                        have H1 : (some false) = some r := by rw [if_neg (show ¬ (false = true) by decide)] at H; exact H
                        clear H
                        have H := H1
                        clear H1
                        obtain rfl := Option.some.inj H
                        go_wp2_with (first | ((with_reducible refine gate_callee (f := 20) rfl ?_); refine goesL_ (some 94) rfl rfl Tryd.func20 (by kernel_rfl) rfl #[.int .i64 a0, .int .i64 a1, .int .i64 t106] rfl (by (try simp only [List.map_toArray, List.map_cons, List.map_nil]); first | done | rfl | (simp only [List.length_drop, List.length_take]; rfl)) ?_; (with_reducible refine (Go.Proofs.YtdbheoffkfmcpaaDoor.K.width_Mul.calls kj16 a0 a1 t106 t125 true _ A52.out).mono ?_); rintro e w' ⟨rfl, ⟨nd, rfl⟩⟩; refine ⟨_, rfl, ?_⟩) | ((with_reducible refine gate_callee (f := 17) rfl ?_); refine goesL_ (some 101) rfl rfl Tryd.func17 (by kernel_rfl) rfl #[.int .i64 a0, .int .i64 a1, .int .i64 t106] rfl (by (try simp only [List.map_toArray, List.map_cons, List.map_nil]); first | done | rfl | (simp only [List.length_drop, List.length_take]; rfl)) ?_; (with_reducible refine (Go.Proofs.YtdbheoffkfmcpaaDoor.K.width_Add.calls kj16 a0 a1 t106 t127 false _ A53.out).mono ?_); rintro e w' ⟨rfl, ⟨nd, rfl⟩⟩; refine ⟨_, rfl, ?_⟩))
                        go_ret
                        exact ⟨by first | rfl | (simp [errW_none, errW_some] <;> rfl) | (simp only [← hji5]; first | rfl | (simp [errW_none, errW_some] <;> rfl)) | (simp [*, errW_none, errW_some] <;> rfl), by repeat (first | (with_reducible first | exact HB.out | apply below_alloc | apply pw_below_drewN | apply below_drew1) | exact HB.out)⟩
                    · replace c58 := Bool.eq_false_iff.mpr c58
                      subst c58
                      have H1 : (some true) = some r := by rw [if_neg (show ¬ (false = true) by decide)] at H; exact H
                      clear H
                      have H := H1
                      clear H1
                      obtain rfl := Option.some.inj H
                      go_wp2_with (first | ((with_reducible refine gate_callee (f := 20) rfl ?_); refine goesL_ (some 94) rfl rfl Tryd.func20 (by kernel_rfl) rfl #[.int .i64 a0, .int .i64 a1, .int .i64 t106] rfl (by (try simp only [List.map_toArray, List.map_cons, List.map_nil]); first | done | rfl | (simp only [List.length_drop, List.length_take]; rfl)) ?_; (with_reducible refine (Go.Proofs.YtdbheoffkfmcpaaDoor.K.width_Mul.calls kj16 a0 a1 t106 t125 true _ A52.out).mono ?_); rintro e w' ⟨rfl, ⟨nd, rfl⟩⟩; refine ⟨_, rfl, ?_⟩) | ((with_reducible refine gate_callee (f := 17) rfl ?_); refine goesL_ (some 101) rfl rfl Tryd.func17 (by kernel_rfl) rfl #[.int .i64 a0, .int .i64 a1, .int .i64 t106] rfl (by (try simp only [List.map_toArray, List.map_cons, List.map_nil]); first | done | rfl | (simp only [List.length_drop, List.length_take]; rfl)) ?_; (with_reducible refine (Go.Proofs.YtdbheoffkfmcpaaDoor.K.width_Add.calls kj16 a0 a1 t106 t127 t128 _ A53.out).mono ?_); rintro e w' ⟨rfl, ⟨nd, rfl⟩⟩; refine ⟨_, rfl, ?_⟩))
                      go_ret
                      exact ⟨by first | rfl | (simp [errW_none, errW_some] <;> rfl) | (simp only [← hji5]; first | rfl | (simp [errW_none, errW_some] <;> rfl)) | (simp [*, errW_none, errW_some] <;> rfl), by repeat (first | (with_reducible first | exact HB.out | apply below_alloc | apply pw_below_drewN | apply below_drew1) | exact HB.out)⟩
                  · rw [if_neg c57] at H
                    have c57b0 : (t125 == t107) = false := beq_eq_false_iff_ne.mpr c57
                    have c57b1 : (t125 != t107) = true := bne_iff_ne.mpr c57
                    obtain rfl := Option.some.inj H
                    go_wp2_with (first | ((with_reducible refine gate_callee (f := 20) rfl ?_); refine goesL_ (some 94) rfl rfl Tryd.func20 (by kernel_rfl) rfl #[.int .i64 a0, .int .i64 a1, .int .i64 t106] rfl (by (try simp only [List.map_toArray, List.map_cons, List.map_nil]); first | done | rfl | (simp only [List.length_drop, List.length_take]; rfl)) ?_; (with_reducible refine (Go.Proofs.YtdbheoffkfmcpaaDoor.K.width_Mul.calls kj16 a0 a1 t106 t125 true _ A52.out).mono ?_); rintro e w' ⟨rfl, ⟨nd, rfl⟩⟩; refine ⟨_, rfl, ?_⟩) | ((with_reducible refine gate_callee (f := 17) rfl ?_); refine goesL_ (some 101) rfl rfl Tryd.func17 (by kernel_rfl) rfl #[.int .i64 a0, .int .i64 a1, .int .i64 t106] rfl (by (try simp only [List.map_toArray, List.map_cons, List.map_nil]); first | done | rfl | (simp only [List.length_drop, List.length_take]; rfl)) ?_; (with_reducible refine (Go.Proofs.YtdbheoffkfmcpaaDoor.K.width_Add.calls kj16 a0 a1 t106 t127 t128 _ A53.out).mono ?_); rintro e w' ⟨rfl, ⟨nd, rfl⟩⟩; refine ⟨_, rfl, ?_⟩))
                    go_ret
                    exact ⟨by first | rfl | (simp [errW_none, errW_some] <;> rfl) | (simp only [← hji5]; first | rfl | (simp [errW_none, errW_some] <;> rfl)) | (simp [*, errW_none, errW_some] <;> rfl), by repeat (first | (with_reducible first | exact HB.out | apply below_alloc | apply pw_below_drewN | apply below_drew1) | exact HB.out)⟩
                · replace c56 := Bool.eq_false_iff.mpr c56
                  subst c56
                  have H1 : (some false) = some r := by rw [if_neg (show ¬ (false = true) by decide)] at H; exact H
                  clear H
                  have H := H1
                  clear H1
                  obtain rfl := Option.some.inj H
                  go_wp2_with (first | ((with_reducible refine gate_callee (f := 20) rfl ?_); refine goesL_ (some 94) rfl rfl Tryd.func20 (by kernel_rfl) rfl #[.int .i64 a0, .int .i64 a1, .int .i64 t106] rfl (by (try simp only [List.map_toArray, List.map_cons, List.map_nil]); first | done | rfl | (simp only [List.length_drop, List.length_take]; rfl)) ?_; (with_reducible refine (Go.Proofs.YtdbheoffkfmcpaaDoor.K.width_Mul.calls kj16 a0 a1 t106 t125 false _ A52.out).mono ?_); rintro e w' ⟨rfl, ⟨nd, rfl⟩⟩; refine ⟨_, rfl, ?_⟩) | ((with_reducible refine gate_callee (f := 17) rfl ?_); refine goesL_ (some 101) rfl rfl Tryd.func17 (by kernel_rfl) rfl #[.int .i64 a0, .int .i64 a1, .int .i64 t106] rfl (by (try simp only [List.map_toArray, List.map_cons, List.map_nil]); first | done | rfl | (simp only [List.length_drop, List.length_take]; rfl)) ?_; (with_reducible refine (Go.Proofs.YtdbheoffkfmcpaaDoor.K.width_Add.calls kj16 a0 a1 t106 t127 t128 _ A53.out).mono ?_); rintro e w' ⟨rfl, ⟨nd, rfl⟩⟩; refine ⟨_, rfl, ?_⟩))
                  go_ret
                  exact ⟨by first | rfl | (simp [errW_none, errW_some] <;> rfl) | (simp only [← hji5]; first | rfl | (simp [errW_none, errW_some] <;> rfl)) | (simp [*, errW_none, errW_some] <;> rfl), by repeat (first | (with_reducible first | exact HB.out | apply below_alloc | apply pw_below_drewN | apply below_drew1) | exact HB.out)⟩
              · replace c55 := Bool.eq_false_iff.mpr c55
                subst c55
                have H1 : (if t110 = true then (if t128 = true then (some (t127 == t109)) else (some false)) else (some true)) = some r := by rw [if_neg (show ¬ (false = true) by decide)] at H; exact H
                clear H
                have H := H1
                clear H1
                by_cases c60 : t110 = true
                · subst c60
                  have H1 : (if t128 = true then (some (t127 == t109)) else (some false)) = some r := by rw [if_pos rfl] at H; exact H
                  clear H
                  have H := H1
                  clear H1
                  by_cases c61 : t128 = true
                  · subst c61
                    have H1 : (some (t127 == t109)) = some r := by rw [if_pos rfl] at H; exact H
                    clear H
                    have H := H1
                    clear H1
                    obtain rfl := Option.some.inj H
                    go_wp2_with (first | ((with_reducible refine gate_callee (f := 20) rfl ?_); refine goesL_ (some 94) rfl rfl Tryd.func20 (by kernel_rfl) rfl #[.int .i64 a0, .int .i64 a1, .int .i64 t106] rfl (by (try simp only [List.map_toArray, List.map_cons, List.map_nil]); first | done | rfl | (simp only [List.length_drop, List.length_take]; rfl)) ?_; (with_reducible refine (Go.Proofs.YtdbheoffkfmcpaaDoor.K.width_Mul.calls kj16 a0 a1 t106 t125 t126 _ A52.out).mono ?_); rintro e w' ⟨rfl, ⟨nd, rfl⟩⟩; refine ⟨_, rfl, ?_⟩) | ((with_reducible refine gate_callee (f := 17) rfl ?_); refine goesL_ (some 101) rfl rfl Tryd.func17 (by kernel_rfl) rfl #[.int .i64 a0, .int .i64 a1, .int .i64 t106] rfl (by (try simp only [List.map_toArray, List.map_cons, List.map_nil]); first | done | rfl | (simp only [List.length_drop, List.length_take]; rfl)) ?_; (with_reducible refine (Go.Proofs.YtdbheoffkfmcpaaDoor.K.width_Add.calls kj16 a0 a1 t106 t127 true _ A53.out).mono ?_); rintro e w' ⟨rfl, ⟨nd, rfl⟩⟩; refine ⟨_, rfl, ?_⟩))
                    go_ret
                    exact ⟨by first | rfl | (simp [errW_none, errW_some] <;> rfl) | (simp only [← hji5]; first | rfl | (simp [errW_none, errW_some] <;> rfl)) | (simp [*, errW_none, errW_some] <;> rfl), by repeat (first | (with_reducible first | exact HB.out | apply below_alloc | apply pw_below_drewN | apply below_drew1) | exact HB.out)⟩
                  · replace c61 := Bool.eq_false_iff.mpr c61
                    subst c61
                    have H1 : (some false) = some r := by rw [if_neg (show ¬ (false = true) by decide)] at H; exact H
                    clear H
                    have H := H1
                    clear H1
                    obtain rfl := Option.some.inj H
                    go_wp2_with (first | ((with_reducible refine gate_callee (f := 20) rfl ?_); refine goesL_ (some 94) rfl rfl Tryd.func20 (by kernel_rfl) rfl #[.int .i64 a0, .int .i64 a1, .int .i64 t106] rfl (by (try simp only [List.map_toArray, List.map_cons, List.map_nil]); first | done | rfl | (simp only [List.length_drop, List.length_take]; rfl)) ?_; (with_reducible refine (Go.Proofs.YtdbheoffkfmcpaaDoor.K.width_Mul.calls kj16 a0 a1 t106 t125 t126 _ A52.out).mono ?_); rintro e w' ⟨rfl, ⟨nd, rfl⟩⟩; refine ⟨_, rfl, ?_⟩) | ((with_reducible refine gate_callee (f := 17) rfl ?_); refine goesL_ (some 101) rfl rfl Tryd.func17 (by kernel_rfl) rfl #[.int .i64 a0, .int .i64 a1, .int .i64 t106] rfl (by (try simp only [List.map_toArray, List.map_cons, List.map_nil]); first | done | rfl | (simp only [List.length_drop, List.length_take]; rfl)) ?_; (with_reducible refine (Go.Proofs.YtdbheoffkfmcpaaDoor.K.width_Add.calls kj16 a0 a1 t106 t127 false _ A53.out).mono ?_); rintro e w' ⟨rfl, ⟨nd, rfl⟩⟩; refine ⟨_, rfl, ?_⟩))
                    go_ret
                    exact ⟨by first | rfl | (simp [errW_none, errW_some] <;> rfl) | (simp only [← hji5]; first | rfl | (simp [errW_none, errW_some] <;> rfl)) | (simp [*, errW_none, errW_some] <;> rfl), by repeat (first | (with_reducible first | exact HB.out | apply below_alloc | apply pw_below_drewN | apply below_drew1) | exact HB.out)⟩
                · replace c60 := Bool.eq_false_iff.mpr c60
                  subst c60
                  have H1 : (some true) = some r := by rw [if_neg (show ¬ (false = true) by decide)] at H; exact H
                  clear H
                  have H := H1
                  clear H1
                  obtain rfl := Option.some.inj H
                  go_wp2_with (first | ((with_reducible refine gate_callee (f := 20) rfl ?_); refine goesL_ (some 94) rfl rfl Tryd.func20 (by kernel_rfl) rfl #[.int .i64 a0, .int .i64 a1, .int .i64 t106] rfl (by (try simp only [List.map_toArray, List.map_cons, List.map_nil]); first | done | rfl | (simp only [List.length_drop, List.length_take]; rfl)) ?_; (with_reducible refine (Go.Proofs.YtdbheoffkfmcpaaDoor.K.width_Mul.calls kj16 a0 a1 t106 t125 t126 _ A52.out).mono ?_); rintro e w' ⟨rfl, ⟨nd, rfl⟩⟩; refine ⟨_, rfl, ?_⟩) | ((with_reducible refine gate_callee (f := 17) rfl ?_); refine goesL_ (some 101) rfl rfl Tryd.func17 (by kernel_rfl) rfl #[.int .i64 a0, .int .i64 a1, .int .i64 t106] rfl (by (try simp only [List.map_toArray, List.map_cons, List.map_nil]); first | done | rfl | (simp only [List.length_drop, List.length_take]; rfl)) ?_; (with_reducible refine (Go.Proofs.YtdbheoffkfmcpaaDoor.K.width_Add.calls kj16 a0 a1 t106 t127 t128 _ A53.out).mono ?_); rintro e w' ⟨rfl, ⟨nd, rfl⟩⟩; refine ⟨_, rfl, ?_⟩))
                  go_ret
                  exact ⟨by first | rfl | (simp [errW_none, errW_some] <;> rfl) | (simp only [← hji5]; first | rfl | (simp [errW_none, errW_some] <;> rfl)) | (simp [*, errW_none, errW_some] <;> rfl), by repeat (first | (with_reducible first | exact HB.out | apply below_alloc | apply pw_below_drewN | apply below_drew1) | exact HB.out)⟩
            · replace c54 := Bool.eq_false_iff.mpr c54
              subst c54
              have H1 : (some false) = some r := by rw [if_neg (show ¬ (false = true) by decide)] at H; exact H
              clear H
              have H := H1
              clear H1
              obtain rfl := Option.some.inj H
              go_wp2_with (first | ((with_reducible refine gate_callee (f := 20) rfl ?_); refine goesL_ (some 94) rfl rfl Tryd.func20 (by kernel_rfl) rfl #[.int .i64 a0, .int .i64 a1, .int .i64 t106] rfl (by (try simp only [List.map_toArray, List.map_cons, List.map_nil]); first | done | rfl | (simp only [List.length_drop, List.length_take]; rfl)) ?_; (with_reducible refine (Go.Proofs.YtdbheoffkfmcpaaDoor.K.width_Mul.calls kj16 a0 a1 t106 t125 t126 _ A52.out).mono ?_); rintro e w' ⟨rfl, ⟨nd, rfl⟩⟩; refine ⟨_, rfl, ?_⟩) | ((with_reducible refine gate_callee (f := 17) rfl ?_); refine goesL_ (some 101) rfl rfl Tryd.func17 (by kernel_rfl) rfl #[.int .i64 a0, .int .i64 a1, .int .i64 t106] rfl (by (try simp only [List.map_toArray, List.map_cons, List.map_nil]); first | done | rfl | (simp only [List.length_drop, List.length_take]; rfl)) ?_; (with_reducible refine (Go.Proofs.YtdbheoffkfmcpaaDoor.K.width_Add.calls kj16 a0 a1 t106 t127 t128 _ A53.out).mono ?_); rintro e w' ⟨rfl, ⟨nd, rfl⟩⟩; refine ⟨_, rfl, ?_⟩))
              go_ret
              exact ⟨by first | rfl | (simp [errW_none, errW_some] <;> rfl) | (simp only [← hji5]; first | rfl | (simp [errW_none, errW_some] <;> rfl)) | (simp [*, errW_none, errW_some] <;> rfl), by repeat (first | (with_reducible first | exact HB.out | apply below_alloc | apply pw_below_drewN | apply below_drew1) | exact HB.out)⟩
    · rw [if_neg c7] at H
      exact absurd H (by simp)
  · rw [if_neg c6] at H
    exact absurd H (by simp)
/-- THE ONE PURE STATEMENT of reredoslaw02_WidthExact: yours. -/
def reredoslaw02_WidthExact.Pure : Prop := ∀ (a0 : Int) (a1 : Int) (a2 : Int), (Lit.int .i64 a0).wf = true → (Lit.int .i64 a1).wf = true → (Lit.int .u8 a2).wf = true → ∃ k, reredoslaw02_WidthExact.f k a0 a1 a2 = some true
theorem reredoslaw02_WidthExact.walk (P : reredoslaw02_WidthExact.Pure) (a0 : Int) (a1 : Int) (a2 : Int) (w : World) (w0 : (Lit.int .i64 a0).wf = true) (w1 : (Lit.int .i64 a1).wf = true) (w2 : (Lit.int .u8 a2).wf = true) (hG : Hd.GL w) :
    Calls Tryd.prog 8 #[.int .i64 a0, .int .i64 a1, .int .u8 a2] w fun e w' => e = .returned (.bool true) ∧ Below w.heap.size w w' := by
  obtain ⟨k, h⟩ := P a0 a1 a2 w0 w1 w2
  refine (reredoslaw02_WidthExact.calls k a0 a1 a2 true w hG h).mono ?_
  rintro e w' ⟨rfl, hd⟩
  exact ⟨rfl, hd⟩
end Go.Proofs.YtdbheoffkfmcpaaDoor.LExact
end
