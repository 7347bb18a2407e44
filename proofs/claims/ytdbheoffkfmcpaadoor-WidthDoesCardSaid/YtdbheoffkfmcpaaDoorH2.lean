/- slices.Max of ints, num.Int, width.Of and width.Next: what they tell, at every input within the bounds that each f names. -/
import Derived.Test.YtdbheoffkfmcpaaDoorH1
import Derived.Test.YtdbheoffkfmcpaaDoorK
namespace Go.Proofs.YtdbheoffkfmcpaaDoor.Hd
open Go.RowKit Go.Proofs.YtdbheoffkfmcpaaDoorW.PrintWords Go.Proofs.YtdbheoffkfmcpaaDoorW.PrintLast Go.Proofs.YtdbheoffkfmcpaaDoorW.PrintMore Go.Proofs.YtdbheoffkfmcpaaDoor.B Go.Lib
set_option linter.unusedVariables false
set_option linter.unusedSimpArgs false

/-! ### slices.Max of ints -/
def slicesMax.f (l0 : List Int) : Option Int := if l0 = [] then none else some (l0.foldl max (l0.headD 0))
theorem foldl_take_succ (l : List Int) (m : Int) (i : Nat) (h : i < l.length) : (l.take (i + 1)).foldl max m = max ((l.take i).foldl max m) (l.getD i 0) := by
  rw [List.take_succ_eq_append_getElem h, List.foldl_append]
  simp [List.getD, List.getElem?_eq_getElem h]
set_option maxHeartbeats 1000000 in
theorem slicesMax.calls (A0 : Option Addr) (c0 : Nat) (l0 : List Int) (r : Int) (w : World) (hr0 : Kd.C (Kd.int .i64) w A0 l0.length l0) (hc0 : l0.length ≤ c0) (h : slicesMax.f l0 = some r) :
    Calls Tryd.prog 50 #[.slice A0 l0.length c0] w fun e w' => e = .returned (.int .i64 r) ∧ Drawn0 w w' := by
  unfold slicesMax.f at h
  split at h
  · cases h
  · rename_i hne
    simp only [Option.some.injEq] at h
    have hpos : 0 < l0.length := List.length_pos_iff.mpr hne
    have HR := Aside0.mk hr0
    have HH := Aside0.mk h
    clear h hne hr0
    obtain ⟨ad, e, hx00⟩ := Kd.at_int HR.out 0 (by omega) (by omega)
    cases e
    have hx0 : w.cell? ad = some (.int .i64 (l0.getD 0 0)) := by
      show w.cell? (ad.add 0) = _
      simpa [rd] using hx00
    clear hx00
    obtain ⟨m0, hm0⟩ : ∃ m0, m0 = l0.getD 0 0 := ⟨_, rfl⟩
    rw [← hm0] at hx0
    have hm1 : l0.headD 0 = m0 := by rw [hm0]; cases l0 <;> simp
    have HM := Aside0.mk hm1
    clear hm1
    have hlt : decide ((l0.length : Int) < 1) = false := decide_eq_false (by omega)
    have h1 : ¬ ((l0.length : Int) < 1) := by omega
    have hlen := HR.out.2.1
    go_enter Tryd.func50, Tryd.ntmps50
    go_wp2
    go_loopw [3, 4] (fun v3 v4 w' => ∃ i : Nat, 1 ≤ i ∧ i ≤ l0.length ∧ v3 = .int .i64 ((l0.take i).foldl max m0) ∧ v4 = .int .i64 i ∧ Drawn0 w w') (fun _ v4 _ => l0.length - (intOf v4).toNat)
    case atStart =>
      refine ⟨1, Nat.le_refl _, hpos, ?_, rfl, Drawn0.refl _⟩
      cases l0 with
      | nil => simp at hpos
      | cons x l => simp at hm0; subst hm0; simp
    case round =>
      obtain ⟨i, hi1, hi2, rfl, rfl, ⟨m1, rfl⟩⟩ := hrel
      by_cases hil : i < l0.length
      · obtain ⟨ad', e, hxi0⟩ := Kd.at_int HR.out i (by omega) (by omega)
        cases e
        have hxi : w.cell? (ad.add i) = some (.int .i64 (l0.getD i 0)) := by simpa [rd] using hxi0
        clear hxi0
        have hst := Aside0.mk (foldl_take_succ l0 m0 i hil)
        obtain ⟨acc, hacc⟩ : ∃ acc, acc = (l0.take i).foldl max m0 := ⟨_, rfl⟩
        obtain ⟨x, hx⟩ : ∃ x, x = l0.getD i 0 := ⟨_, rfl⟩
        rw [← hx] at hxi hst
        rw [← hacc] at hst ⊢
        clear hx hacc
        have hmx : (if acc < x then x else acc) = max acc x := by rw [Int.max_def]; split <;> split <;> omega
        go_wp2
        go_roundw
        case rel => exact ⟨i + 1, by omega, by omega, by rw [hst.out], by go_num, ⟨_, rfl⟩⟩
        case measure => simp [intOf]; omega
      · have hii : i = l0.length := by omega
        have HII := Aside0.mk hii
        clear hii
        go_wp2
        go_ret
        refine ⟨?_, ⟨_, rfl⟩⟩
        have e1 := HII.out
        have e2 := HH.out
        rw [HM.out] at e2
        rw [← e2, e1, List.take_length]
        rfl

/-! ### num.Int -/
def numInt.f (a0 : ByteArray) : Option (Int × Bool) :=
  if a0.size ≤ 281474976710656 then (K.num_May.f a0).bind fun m => if m = true then (match parseIntB 64 a0.data.toList with | .ok v => some (v, true) | _ => some (0, false)) else some (0, false) else none
set_option maxHeartbeats 1000000 in
theorem numInt.calls (a0 : ByteArray) (r1 : Int) (r2 : Bool) (w : World) (hG : GL w) (h : numInt.f a0 = some (r1, r2)) :
    Calls Tryd.prog 38 #[.string a0] w fun e w' => e = .returned (.tuple #[.int .i64 r1, .bool r2]) ∧ Below w.heap.size w w' := by
  unfold numInt.f at h
  split at h
  · rename_i hs
    obtain ⟨m, hm, h⟩ := Option.bind_eq_some_iff.mp h
    have HM := Aside0.mk hm
    clear hm
    cases m with
    | false =>
      simp only [Bool.false_eq_true, if_false, Option.some.injEq, Prod.mk.injEq] at h
      obtain ⟨rfl, rfl⟩ := h
      go_enter Tryd.func38, Tryd.ntmps38
      go_wp2_with (go_at_call 33; refine (K.num_May.calls a0 false _ HM.out).mono ?_; rintro e w' ⟨rfl, hb⟩)
      go_ret2
      exact ⟨rfl, hb⟩
    | true =>
      have H1 : Calls Tryd.prog 38 #[.string a0] w fun e w' => e = .returned (.tuple (match parseIntB 64 a0.data.toList with | .ok v => #[.int .i64 v, .bool true] | _ => #[.int .i64 0, .bool false])) ∧ Below w.heap.size w w' := by
        obtain ⟨q, hq⟩ : ∃ q, q = parseIntB 64 a0.data.toList := ⟨_, rfl⟩
        have HQ := Aside0.mk hq.symm
        rw [← hq]
        clear h hq
        cases q
        · rename_i v
          go_enter Tryd.func38, Tryd.ntmps38
          go_wp2_with (first | (go_at_call 33; refine (K.num_May.calls a0 true _ HM.out).mono ?_; rintro e w1 ⟨rfl, hb⟩) | (go_at_call 65; refine (Tryd.strconv_ParseInt_10_at64_ok a0 (by omega) v HQ.out _).mono ?_; rintro e w2 ⟨rfl, hw⟩))
          have hb2 : Below w.heap.size w w2 := by
            rcases hw with rfl | ⟨t, rfl⟩
            · exact hb
            · exact hb.trans ((bytesWorld_below _ _ _).mono hb.size)
          clear hw
          go_ret2
          exact ⟨rfl, hb2⟩
        · obtain ⟨_, ⟨tp, p, hv⟩, _⟩ := id hG
          have HV : ∀ W, Below w.heap.size w W → W.var? Tryd.prog "strconv.ErrSyntax" = some #[.iface tp p] := fun W hb => var_keep (g := 1) (Nat.le_refl _) (by kernel_rfl) hb hv
          go_enter Tryd.func38, Tryd.ntmps38
          go_wp2_with (first | (go_at_call 33; refine (K.num_May.calls a0 true _ HM.out).mono ?_; rintro e w1 ⟨rfl, hb⟩) | (go_at_call 65; refine (Any.strconv_ParseInt_10_at64_syntax_var Tryd.laysC174 a0 (by omega) HQ.out tp p _ (HV _ hb)).mono ?_; rintro e w2 ⟨N, rfl, _, _, hb2⟩))
          go_ret2
          exact ⟨rfl, hb.trans (hb2.mono hb.size)⟩
        · obtain ⟨_, _, ⟨tp, p, hv⟩⟩ := id hG
          have HV : ∀ W, Below w.heap.size w W → W.var? Tryd.prog "strconv.ErrRange" = some #[.iface tp p] := fun W hb => var_keep (g := 2) (Nat.le_refl _) (by kernel_rfl) hb hv
          go_enter Tryd.func38, Tryd.ntmps38
          go_wp2_with (first | (go_at_call 33; refine (K.num_May.calls a0 true _ HM.out).mono ?_; rintro e w1 ⟨rfl, hb⟩) | (go_at_call 65; refine (Tryd.strconv_ParseInt_10_at64_range_var a0 (by omega) HQ.out tp p _ (HV _ hb)).mono ?_; rintro e w2 ⟨N, rfl, _, _, hb2⟩))
          go_ret2
          exact ⟨rfl, hb.trans (hb2.mono hb.size)⟩
      refine H1.mono ?_
      rintro e w' ⟨rfl, hb⟩
      refine ⟨?_, hb⟩
      simp only [if_true] at h
      revert h
      cases parseIntB 64 a0.data.toList <;> (intro h; simp only [Option.some.injEq, Prod.mk.injEq] at h; obtain ⟨rfl, rfl⟩ := h; rfl)
  · cases h

/-! ### width.Of, width.Next -/
theorem alloc_new (w : World) (o : Obj) : (w.alloc o).heap[w.heap.size]? = some o := by
  show (w.heap.push o)[w.heap.size]? = _
  simp
theorem widths.calls (w : World) : Calls Tryd.prog 40 #[] w fun e w' => e = .returned (.agg #[.int .i64 8, .int .i64 16, .int .i64 32, .int .i64 64, .int .i64 128]) ∧ Below w.heap.size w w' := by
  go_enter Tryd.func40, Tryd.ntmps40
  go_wp2
  refine bodyPost_ret (results_cell_row rfl _ _ w.heap.size 49 #[.int .i64 8, .int .i64 16, .int .i64 32, .int .i64 64, .int .i64 128] (0, 0) _ rfl (alloc_new _ _) Tryd.underlying49 rfl (by kernel_rfl)) rfl ?_
  exact ⟨rfl, (Below.refl _ w).alloc (Nat.le_refl _) _⟩
/-- the width behind another one -/
def nextW (a0 : Int) : Int := if a0 = 8 then 16 else if a0 = 16 then 32 else if a0 = 32 then 64 else 128
def widthNext.f (a0 : Int) : Option Int := some (nextW a0)
theorem idxW (a0 : Int) (h : ¬ (a0 = 8 ∨ a0 = 16 ∨ a0 = 32 ∨ a0 = 64 ∨ a0 = 128)) : idxOf ([8, 16, 32, 64, 128].take 5) a0 = -1 := by
  simp only [not_or] at h
  simp [idxOf, idxFrom, Ne.symm h.1, Ne.symm h.2.1, Ne.symm h.2.2.1, Ne.symm h.2.2.2.1, Ne.symm h.2.2.2.2, h.1, h.2.1, h.2.2.1, h.2.2.2.1, h.2.2.2.2]
theorem arr5_cells (w : World) (t : Nat) (j : Nat) (hj : j < [8, 16, 32, 64, 128].length) : (w.alloc (.cells #[.int .i64 8, .int .i64 16, .int .i64 32, .int .i64 64, .int .i64 128] t)).cell? ⟨w.heap.size, 0 + j, none⟩ = some (.int .i64 ([8, 16, 32, 64, 128].getD j 0)) := by
  match j, hj with
  | 0, _ => simp only [World.cell?, alloc_new]; rfl
  | 1, _ => simp only [World.cell?, alloc_new]; rfl
  | 2, _ => simp only [World.cell?, alloc_new]; rfl
  | 3, _ => simp only [World.cell?, alloc_new]; rfl
  | 4, _ => simp only [World.cell?, alloc_new]; rfl
set_option maxHeartbeats 1000000 in
theorem widthNext_8 (w : World) : Calls Tryd.prog 25 #[.int .i64 8] w fun e w' => e = .returned (.int .i64 16) ∧ Below w.heap.size w w' := by
  have HC : ∀ W : World, Calls Tryd.prog 51 #[.slice (some ⟨W.heap.size, 0, none⟩) 5 5, .int .i64 8] (W.alloc (.cells #[.int .i64 8, .int .i64 16, .int .i64 32, .int .i64 64, .int .i64 128] 49)) fun e w' => e = .returned (.int .i64 (0)) ∧ w' = W.alloc (.cells #[.int .i64 8, .int .i64 16, .int .i64 32, .int .i64 64, .int .i64 128] 49) := fun W => by
    have h0 := Tryd.slices_Index_int W.heap.size 0 5 5 [8, 16, 32, 64, 128] 8 _ (by decide) (by decide) (fun j hj => arr5_cells W 49 j hj)
    rw [show idxOf ([8, 16, 32, 64, 128].take 5) 8 = 0 from by decide] at h0
    exact h0
  go_enter Tryd.func25, Tryd.ntmps25
  go_wp2_with (first | (go_at_call 40; refine (widths.calls _).mono ?_; rintro e w1 ⟨rfl, hb⟩) | (go_at_call 51; refine (HC _).mono ?_; rintro e w2 ⟨rfl, rfl⟩))
  go_ret
  exact ⟨rfl, hb.alloc hb.size _⟩
set_option maxHeartbeats 1000000 in
theorem widthNext_16 (w : World) : Calls Tryd.prog 25 #[.int .i64 16] w fun e w' => e = .returned (.int .i64 32) ∧ Below w.heap.size w w' := by
  have HC : ∀ W : World, Calls Tryd.prog 51 #[.slice (some ⟨W.heap.size, 0, none⟩) 5 5, .int .i64 16] (W.alloc (.cells #[.int .i64 8, .int .i64 16, .int .i64 32, .int .i64 64, .int .i64 128] 49)) fun e w' => e = .returned (.int .i64 (1)) ∧ w' = W.alloc (.cells #[.int .i64 8, .int .i64 16, .int .i64 32, .int .i64 64, .int .i64 128] 49) := fun W => by
    have h0 := Tryd.slices_Index_int W.heap.size 0 5 5 [8, 16, 32, 64, 128] 16 _ (by decide) (by decide) (fun j hj => arr5_cells W 49 j hj)
    rw [show idxOf ([8, 16, 32, 64, 128].take 5) 16 = 1 from by decide] at h0
    exact h0
  go_enter Tryd.func25, Tryd.ntmps25
  go_wp2_with (first | (go_at_call 40; refine (widths.calls _).mono ?_; rintro e w1 ⟨rfl, hb⟩) | (go_at_call 51; refine (HC _).mono ?_; rintro e w2 ⟨rfl, rfl⟩))
  go_ret
  exact ⟨rfl, hb.alloc hb.size _⟩
set_option maxHeartbeats 1000000 in
theorem widthNext_32 (w : World) : Calls Tryd.prog 25 #[.int .i64 32] w fun e w' => e = .returned (.int .i64 64) ∧ Below w.heap.size w w' := by
  have HC : ∀ W : World, Calls Tryd.prog 51 #[.slice (some ⟨W.heap.size, 0, none⟩) 5 5, .int .i64 32] (W.alloc (.cells #[.int .i64 8, .int .i64 16, .int .i64 32, .int .i64 64, .int .i64 128] 49)) fun e w' => e = .returned (.int .i64 (2)) ∧ w' = W.alloc (.cells #[.int .i64 8, .int .i64 16, .int .i64 32, .int .i64 64, .int .i64 128] 49) := fun W => by
    have h0 := Tryd.slices_Index_int W.heap.size 0 5 5 [8, 16, 32, 64, 128] 32 _ (by decide) (by decide) (fun j hj => arr5_cells W 49 j hj)
    rw [show idxOf ([8, 16, 32, 64, 128].take 5) 32 = 2 from by decide] at h0
    exact h0
  go_enter Tryd.func25, Tryd.ntmps25
  go_wp2_with (first | (go_at_call 40; refine (widths.calls _).mono ?_; rintro e w1 ⟨rfl, hb⟩) | (go_at_call 51; refine (HC _).mono ?_; rintro e w2 ⟨rfl, rfl⟩))
  go_ret
  exact ⟨rfl, hb.alloc hb.size _⟩
set_option maxHeartbeats 1000000 in
theorem widthNext_64 (w : World) : Calls Tryd.prog 25 #[.int .i64 64] w fun e w' => e = .returned (.int .i64 128) ∧ Below w.heap.size w w' := by
  have HC : ∀ W : World, Calls Tryd.prog 51 #[.slice (some ⟨W.heap.size, 0, none⟩) 5 5, .int .i64 64] (W.alloc (.cells #[.int .i64 8, .int .i64 16, .int .i64 32, .int .i64 64, .int .i64 128] 49)) fun e w' => e = .returned (.int .i64 (3)) ∧ w' = W.alloc (.cells #[.int .i64 8, .int .i64 16, .int .i64 32, .int .i64 64, .int .i64 128] 49) := fun W => by
    have h0 := Tryd.slices_Index_int W.heap.size 0 5 5 [8, 16, 32, 64, 128] 64 _ (by decide) (by decide) (fun j hj => arr5_cells W 49 j hj)
    rw [show idxOf ([8, 16, 32, 64, 128].take 5) 64 = 3 from by decide] at h0
    exact h0
  go_enter Tryd.func25, Tryd.ntmps25
  go_wp2_with (first | (go_at_call 40; refine (widths.calls _).mono ?_; rintro e w1 ⟨rfl, hb⟩) | (go_at_call 51; refine (HC _).mono ?_; rintro e w2 ⟨rfl, rfl⟩))
  go_ret
  exact ⟨rfl, hb.alloc hb.size _⟩
set_option maxHeartbeats 1000000 in
theorem widthNext_128 (w : World) : Calls Tryd.prog 25 #[.int .i64 128] w fun e w' => e = .returned (.int .i64 128) ∧ Below w.heap.size w w' := by
  have HC : ∀ W : World, Calls Tryd.prog 51 #[.slice (some ⟨W.heap.size, 0, none⟩) 5 5, .int .i64 128] (W.alloc (.cells #[.int .i64 8, .int .i64 16, .int .i64 32, .int .i64 64, .int .i64 128] 49)) fun e w' => e = .returned (.int .i64 (4)) ∧ w' = W.alloc (.cells #[.int .i64 8, .int .i64 16, .int .i64 32, .int .i64 64, .int .i64 128] 49) := fun W => by
    have h0 := Tryd.slices_Index_int W.heap.size 0 5 5 [8, 16, 32, 64, 128] 128 _ (by decide) (by decide) (fun j hj => arr5_cells W 49 j hj)
    rw [show idxOf ([8, 16, 32, 64, 128].take 5) 128 = 4 from by decide] at h0
    exact h0
  go_enter Tryd.func25, Tryd.ntmps25
  go_wp2_with (first | (go_at_call 40; refine (widths.calls _).mono ?_; rintro e w1 ⟨rfl, hb⟩) | (go_at_call 51; refine (HC _).mono ?_; rintro e w2 ⟨rfl, rfl⟩))
  go_ret
  exact ⟨rfl, hb.alloc hb.size _⟩
set_option maxHeartbeats 1000000 in
theorem widthNext_no (a0 : Int) (h : ¬ (a0 = 8 ∨ a0 = 16 ∨ a0 = 32 ∨ a0 = 64 ∨ a0 = 128)) (w : World) : Calls Tryd.prog 25 #[.int .i64 a0] w fun e w' => e = .returned (.int .i64 128) ∧ Below w.heap.size w w' := by
  have HC : ∀ W : World, Calls Tryd.prog 51 #[.slice (some ⟨W.heap.size, 0, none⟩) 5 5, .int .i64 a0] (W.alloc (.cells #[.int .i64 8, .int .i64 16, .int .i64 32, .int .i64 64, .int .i64 128] 49)) fun e w' => e = .returned (.int .i64 (-1)) ∧ w' = W.alloc (.cells #[.int .i64 8, .int .i64 16, .int .i64 32, .int .i64 64, .int .i64 128] 49) := fun W => by
    have h0 := Tryd.slices_Index_int W.heap.size 0 5 5 [8, 16, 32, 64, 128] a0 _ (by decide) (by decide) (fun j hj => arr5_cells W 49 j hj)
    rw [idxW a0 h] at h0
    exact h0
  go_enter Tryd.func25, Tryd.ntmps25
  go_wp2_with (first | (go_at_call 40; refine (widths.calls _).mono ?_; rintro e w1 ⟨rfl, hb⟩) | (go_at_call 51; refine (HC _).mono ?_; rintro e w2 ⟨rfl, rfl⟩))
  go_ret
  exact ⟨rfl, hb.alloc hb.size _⟩

theorem widthNext.calls (a0 : Int) (r : Int) (w : World) (h : widthNext.f a0 = some r) :
    Calls Tryd.prog 25 #[.int .i64 a0] w fun e w' => e = .returned (.int .i64 r) ∧ Below w.heap.size w w' := by
  simp only [widthNext.f, Option.some.injEq] at h
  subst h
  by_cases h : a0 = 8 ∨ a0 = 16 ∨ a0 = 32 ∨ a0 = 64 ∨ a0 = 128
  · rcases h with rfl | rfl | rfl | rfl | rfl
    · exact widthNext_8 w
    · exact widthNext_16 w
    · exact widthNext_32 w
    · exact widthNext_64 w
    · exact widthNext_128 w
  · have h1 := widthNext_no a0 h w
    simp only [not_or] at h
    have h2 : nextW a0 = 128 := by simp [nextW, h.1, h.2.1, h.2.2.1]
    rw [h2]
    exact h1

/-! ### width.Of -/
def fitsW (x w : Int) : Bool := if w = 64 then true else if w = 128 then true else if w = 8 then decide (-128 ≤ x) && decide (x < 128) else if w = 16 then decide (-32768 ≤ x) && decide (x < 32768) else if w = 32 then decide (-2147483648 ≤ x) && decide (x < 2147483648) else false
theorem fits_ev (x w : Int) : K.width_Fits.f 1 x w = some (fitsW x w) := by
  unfold K.width_Fits.f K.width_Fits.j0 fitsW
  by_cases h64 : w = 64
  · subst h64; simp
  by_cases h128 : w = 128
  · subst h128; simp
  by_cases h8 : w = 8
  · subst h8
    have e1 : wrap64 (8 - 1) = 7 := by kernel_rfl
    have e2 : shl .i64 1 7 = 128 := by decide
    have e3 : wrap64 (-128) = -128 := by kernel_rfl
    simp only [e1, e2, e3]
    by_cases h : -128 ≤ x <;> simp [h]
  by_cases h16 : w = 16
  · subst h16
    have e1 : wrap64 (16 - 1) = 15 := by kernel_rfl
    have e2 : shl .i64 1 15 = 32768 := by decide
    have e3 : wrap64 (-32768) = -32768 := by kernel_rfl
    simp only [e1, e2, e3]
    by_cases h : -32768 ≤ x <;> simp [h]
  by_cases h32 : w = 32
  · subst h32
    have e1 : wrap64 (32 - 1) = 31 := by kernel_rfl
    have e2 : shl .i64 1 31 = 2147483648 := by decide
    have e3 : wrap64 (-2147483648) = -2147483648 := by kernel_rfl
    simp only [e1, e2, e3]
    by_cases h : -2147483648 ≤ x <;> simp [h]
  simp [h64, h128, h8, h16, h32]
def leastW (x : Int) : Int := if fitsW x 8 = true then 8 else if fitsW x 16 = true then 16 else if fitsW x 32 = true then 32 else 64
def widthOf.f (a0 : ByteArray) : Option Int := (numInt.f a0).bind fun r => some (if r.2 = true then leastW r.1 else 128)
theorem fits_at (x w : Int) (W : World) (b : Bool) (hb : fitsW x w = b) : Calls Tryd.prog 16 #[.int .i64 x, .int .i64 w] W fun e w' => e = .returned (.bool b) ∧ Drawn0 W w' :=
  K.width_Fits.calls 1 x w b W (hb ▸ fits_ev x w)
theorem idxArr0 (W : World) : (Instr.index 49 (.agg #[.int .i64 8, .int .i64 16, .int .i64 32, .int .i64 64, .int .i64 128]) (.int .i64 0)).run Tryd.prog W = .ok (.int .i64 8) W := by kernel_rfl
theorem idxArr1 (W : World) : (Instr.index 49 (.agg #[.int .i64 8, .int .i64 16, .int .i64 32, .int .i64 64, .int .i64 128]) (.int .i64 1)).run Tryd.prog W = .ok (.int .i64 16) W := by kernel_rfl
theorem idxArr2 (W : World) : (Instr.index 49 (.agg #[.int .i64 8, .int .i64 16, .int .i64 32, .int .i64 64, .int .i64 128]) (.int .i64 2)).run Tryd.prog W = .ok (.int .i64 32) W := by kernel_rfl
theorem idxArr3 (W : World) : (Instr.index 49 (.agg #[.int .i64 8, .int .i64 16, .int .i64 32, .int .i64 64, .int .i64 128]) (.int .i64 3)).run Tryd.prog W = .ok (.int .i64 64) W := by kernel_rfl
theorem idxArr4 (W : World) : (Instr.index 49 (.agg #[.int .i64 8, .int .i64 16, .int .i64 32, .int .i64 64, .int .i64 128]) (.int .i64 4)).run Tryd.prog W = .ok (.int .i64 128) W := by kernel_rfl
attribute [local go_sem high] idxArr0 idxArr1 idxArr2 idxArr3 idxArr4
def widthAt (i : Nat) : Int := [8, 16, 32, 64, 128].getD i 0
set_option maxRecDepth 100000 in
set_option maxHeartbeats 2000000 in
theorem widthOf.calls (a0 : ByteArray) (r : Int) (w : World) (hG : GL w) (h : widthOf.f a0 = some r) :
    Calls Tryd.prog 14 #[.string a0] w fun e w' => e = .returned (.int .i64 r) ∧ Below w.heap.size w w' := by
  obtain ⟨⟨x, ok⟩, hn, h⟩ := Option.bind_eq_some_iff.mp h
  have HN := Aside0.mk hn
  clear hn
  simp only [Option.some.injEq] at h
  cases ok with
  | false =>
    simp only [Bool.false_eq_true, if_false] at h
    subst h
    go_enter Tryd.func14, Tryd.ntmps14
    go_wp2_with (go_at_call 38; refine (numInt.calls a0 x false _ hG HN.out).mono ?_; rintro e w1 ⟨rfl, hb⟩)
    go_ret
    exact ⟨rfl, hb⟩
  | true =>
    simp only [if_true] at h
    have HR := Aside0.mk h
    clear h
    have HF := Aside0.mk (fun (W : World) (u : Int) (b : Bool) (hb : fitsW x u = b) => fits_at x u W b hb)
    have fin : ∀ i : Nat, i < 5 → (∀ j, j < i → fitsW x (widthAt j) = false) → fitsW x (widthAt i) = true → widthAt i = r := by
      intro i hi hno hyes
      rw [← HR.out]
      unfold leastW
      match i, hi with
      | 0, _ => exact (if_pos hyes).symm
      | 1, _ => have h0 := hno 0 (by omega); rw [if_neg (by rw [show (8 : Int) = widthAt 0 from rfl, h0]; decide)]; exact (if_pos hyes).symm
      | 2, _ => have h0 := hno 0 (by omega); have h1 := hno 1 (by omega); rw [if_neg (by rw [show (8 : Int) = widthAt 0 from rfl, h0]; decide), if_neg (by rw [show (16 : Int) = widthAt 1 from rfl, h1]; decide)]; exact (if_pos hyes).symm
      | 3, _ => have h0 := hno 0 (by omega); have h1 := hno 1 (by omega); have h2 := hno 2 (by omega); rw [if_neg (by rw [show (8 : Int) = widthAt 0 from rfl, h0]; decide), if_neg (by rw [show (16 : Int) = widthAt 1 from rfl, h1]; decide), if_neg (by rw [show (32 : Int) = widthAt 2 from rfl, h2]; decide)]; rfl
      | 4, _ => have h3 := hno 3 (by omega); simp [fitsW, widthAt] at h3
    have FIN := Aside0.mk fin
    clear fin
    go_enter Tryd.func14, Tryd.ntmps14
    go_wp2_with (first | (go_at_call 38; refine (numInt.calls a0 x true _ hG HN.out).mono ?_; rintro e w1 ⟨rfl, hb⟩) | (go_at_call 40; refine (widths.calls _).mono ?_; rintro e w2 ⟨rfl, hb2⟩))
    have HB := Aside0.mk (hb.trans (hb2.mono hb.size))
    clear hb hb2
    go_loopw [15] (fun v15 w' => ∃ i : Int, 0 ≤ i ∧ i ≤ 5 ∧ v15 = .int .i64 i ∧ Aside0 (∀ j : Nat, (j : Int) < i → fitsW x (widthAt j) = false) ∧ Aside0 (Below w.heap.size w w')) (fun v15 _ => 5 - (intOf v15).toNat)
    case atStart => exact ⟨0, by omega, by omega, rfl, ⟨fun j hj => by omega⟩, HB⟩
    case round =>
      obtain ⟨i, hi0, hi, rfl, HNo, HB'⟩ := hrel
      have hcs : i = 0 ∨ i = 1 ∨ i = 2 ∨ i = 3 ∨ i = 4 ∨ i = 5 := by omega
      clear hi0 hi
      rcases hcs with rfl | rfl | rfl | rfl | rfl | rfl
      · by_cases hf : fitsW x 8 = true
        · have HY := Aside0.mk hf
          clear hf
          go_wp2_with (go_at_call 16; refine (HF.out _ 8 true HY.out).mono ?_; rintro e w3 ⟨rfl, ⟨nd, rfl⟩⟩)
          go_ret
          refine ⟨?_, pw_below_drewN HB'.out nd⟩
          rw [← FIN.out 0 (by omega) (fun j hj => HNo.out j (by omega)) HY.out]
          rfl
        · have HY := Aside0.mk (Bool.eq_false_iff.mpr hf)
          clear hf
          go_wp2_with (go_at_call 16; refine (HF.out _ 8 false HY.out).mono ?_; rintro e w3 ⟨rfl, ⟨nd, rfl⟩⟩)
          go_roundw
          case rel => exact ⟨1, by omega, by omega, rfl, ⟨fun j hj => by rcases (by omega : (j : Int) < 0 ∨ j = 0) with h | h; exact HNo.out j h; subst h; exact HY.out⟩, ⟨pw_below_drewN HB'.out nd⟩⟩
          case measure => simp [intOf]
      · by_cases hf : fitsW x 16 = true
        · have HY := Aside0.mk hf
          clear hf
          go_wp2_with (go_at_call 16; refine (HF.out _ 16 true HY.out).mono ?_; rintro e w3 ⟨rfl, ⟨nd, rfl⟩⟩)
          go_ret
          refine ⟨?_, pw_below_drewN HB'.out nd⟩
          rw [← FIN.out 1 (by omega) (fun j hj => HNo.out j (by omega)) HY.out]
          rfl
        · have HY := Aside0.mk (Bool.eq_false_iff.mpr hf)
          clear hf
          go_wp2_with (go_at_call 16; refine (HF.out _ 16 false HY.out).mono ?_; rintro e w3 ⟨rfl, ⟨nd, rfl⟩⟩)
          go_roundw
          case rel => exact ⟨2, by omega, by omega, rfl, ⟨fun j hj => by rcases (by omega : (j : Int) < 1 ∨ j = 1) with h | h; exact HNo.out j h; subst h; exact HY.out⟩, ⟨pw_below_drewN HB'.out nd⟩⟩
          case measure => simp [intOf]
      · by_cases hf : fitsW x 32 = true
        · have HY := Aside0.mk hf
          clear hf
          go_wp2_with (go_at_call 16; refine (HF.out _ 32 true HY.out).mono ?_; rintro e w3 ⟨rfl, ⟨nd, rfl⟩⟩)
          go_ret
          refine ⟨?_, pw_below_drewN HB'.out nd⟩
          rw [← FIN.out 2 (by omega) (fun j hj => HNo.out j (by omega)) HY.out]
          rfl
        · have HY := Aside0.mk (Bool.eq_false_iff.mpr hf)
          clear hf
          go_wp2_with (go_at_call 16; refine (HF.out _ 32 false HY.out).mono ?_; rintro e w3 ⟨rfl, ⟨nd, rfl⟩⟩)
          go_roundw
          case rel => exact ⟨3, by omega, by omega, rfl, ⟨fun j hj => by rcases (by omega : (j : Int) < 2 ∨ j = 2) with h | h; exact HNo.out j h; subst h; exact HY.out⟩, ⟨pw_below_drewN HB'.out nd⟩⟩
          case measure => simp [intOf]
      · by_cases hf : fitsW x 64 = true
        · have HY := Aside0.mk hf
          clear hf
          go_wp2_with (go_at_call 16; refine (HF.out _ 64 true HY.out).mono ?_; rintro e w3 ⟨rfl, ⟨nd, rfl⟩⟩)
          go_ret
          refine ⟨?_, pw_below_drewN HB'.out nd⟩
          rw [← FIN.out 3 (by omega) (fun j hj => HNo.out j (by omega)) HY.out]
          rfl
        · have HY := Aside0.mk (Bool.eq_false_iff.mpr hf)
          clear hf
          go_wp2_with (go_at_call 16; refine (HF.out _ 64 false HY.out).mono ?_; rintro e w3 ⟨rfl, ⟨nd, rfl⟩⟩)
          go_roundw
          case rel => exact ⟨4, by omega, by omega, rfl, ⟨fun j hj => by rcases (by omega : (j : Int) < 3 ∨ j = 3) with h | h; exact HNo.out j h; subst h; exact HY.out⟩, ⟨pw_below_drewN HB'.out nd⟩⟩
          case measure => simp [intOf]
      · by_cases hf : fitsW x 128 = true
        · have HY := Aside0.mk hf
          clear hf
          go_wp2_with (go_at_call 16; refine (HF.out _ 128 true HY.out).mono ?_; rintro e w3 ⟨rfl, ⟨nd, rfl⟩⟩)
          go_ret
          refine ⟨?_, pw_below_drewN HB'.out nd⟩
          rw [← FIN.out 4 (by omega) (fun j hj => HNo.out j (by omega)) HY.out]
          rfl
        · have HY := Aside0.mk (Bool.eq_false_iff.mpr hf)
          clear hf
          go_wp2_with (go_at_call 16; refine (HF.out _ 128 false HY.out).mono ?_; rintro e w3 ⟨rfl, ⟨nd, rfl⟩⟩)
          go_roundw
          case rel => exact ⟨5, by omega, by omega, rfl, ⟨fun j hj => by rcases (by omega : (j : Int) < 4 ∨ j = 4) with h | h; exact HNo.out j h; subst h; exact HY.out⟩, ⟨pw_below_drewN HB'.out nd⟩⟩
          case measure => simp [intOf]
      · exact absurd (HNo.out 3 (by omega)) (by simp [fitsW, widthAt])

end Go.Proofs.YtdbheoffkfmcpaaDoor.Hd
