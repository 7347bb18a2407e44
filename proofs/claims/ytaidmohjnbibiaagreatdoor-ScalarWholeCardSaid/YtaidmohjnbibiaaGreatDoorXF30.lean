/- What the law leans on, part 31: declarations of several texts of ours, in their order. -/
import Derived.Test.YtaidmohjnbibiaaGreatDoorXF29
import Derived.Test.YtaidmohjnbibiaaGreatDoorXF25
import Derived.Test.YtaidmohjnbibiaaGreatDoorXF27
section
/- What scalar's functions tell of numbers, plainly: each sign, what is told where a text is no number, and the example at the head of all statements. -/
namespace Go.Proofs.YtaidmohjnbibiaaGreatDoor.Nm
open Go.Lib Go.RowKit Go.Proofs.YtaidmohjnbibiaaGreatDoorW.PrintWords Go.Proofs.YtaidmohjnbibiaaGreatDoorW.PrintLast Go.Proofs.YtaidmohjnbibiaaGreatDoor
set_option linter.unusedVariables false
set_option linter.unusedSimpArgs false
theorem sgn_gt {x : Int} : (sgn x > 0) ↔ 0 < x := by unfold sgn; split <;> (try split) <;> omega
theorem sgn_lt {x : Int} : (sgn x < 0) ↔ x < 0 := by unfold sgn; split <;> (try split) <;> omega
theorem sgn_le {x : Int} : (sgn x ≤ 0) ↔ x ≤ 0 := by unfold sgn; split <;> (try split) <;> omega
theorem sgn_ge {x : Int} : (sgn x ≥ 0) ↔ 0 ≤ x := by unfold sgn; split <;> (try split) <;> omega
theorem sm_one {z : Int} (h : z = -1 ∨ z = 0 ∨ z = 1) : Sm z := sm_i64 (by omega) (by omega)
theorem lit_list (c : UInt8) : (⟨#[c]⟩ : ByteArray).toList = [c] := ba_list [c]
theorem one_s : (⟨#[49]⟩ : ByteArray) = numS 1 := litS 1 [49] (by decide) (by decide) (by decide) (by simp)
theorem zero_s : (⟨#[48]⟩ : ByteArray) = numS 0 := by
  show _ = BA (itoa 0)
  rw [(itoa_zero_iff 0).2 rfl, BA]
theorem one_list : (numS 1).toList = [49] := by rw [← one_s]; exact lit_list _
theorem zero_list : (numS 0).toList = [48] := by rw [← zero_s]; exact lit_list _
/-- one or nothing -/
def b01 (p : Bool) : Int := if p then 1 else 0
theorem told_s (p : Bool) : SC.scalar_told.f p = some (numS (b01 p)) := by
  unfold SC.scalar_told.f b01
  cases p
  · rw [if_neg (by decide), zero_s]; rfl
  · rw [if_pos rfl, one_s]; rfl
theorem pick_s (p : Bool) (a b : ByteArray) : SC.scalar_pick.f p a b = some (if p = true then a else b, 0) := by
  unfold SC.scalar_pick.f
  cases p <;> rfl
/-! ### a sign and two numbers -/
theorem dy_ev {op : ByteArray} (i : Nat) (hi : Hd.sgDyad op = i + 1) {x y : Int} (hx : Sm x) (hy : Sm y) {r : ByteArray × Int} (h : Ev (fun k => Hd.doesDyad (i + 1) k (numS x) (numS y)) r) : Ev (fun k => Hd.scalarDyad.f k op (numS x) (numS y)) r := by
  refine Ev.congr (fun k => ?_) h
  unfold Hd.scalarDyad.f
  rw [hi, if_neg (by omega), mayS hx, mayS hy]
  rfl
section
variable {x y : Int} (hx : Sm x) (hy : Sm y)
include hx hy
theorem dAdd : Ev (fun k => Hd.scalarDyad.f k ⟨#[43]⟩ (numS x) (numS y)) (told (x + y)) := dy_ev 0 (by simp [Hd.sgDyad, lit_list]) hx hy (numAdd_ev x y hx hy)
theorem dSub : Ev (fun k => Hd.scalarDyad.f k ⟨#[45]⟩ (numS x) (numS y)) (told (x - y)) := dy_ev 1 (by simp [Hd.sgDyad, lit_list]) hx hy (numSub_ev x y hx hy)
theorem dMul : Ev (fun k => Hd.scalarDyad.f k ⟨#[42]⟩ (numS x) (numS y)) (told (x * y)) := dy_ev 2 (by simp [Hd.sgDyad, lit_list]) hx hy (numMul_ev x y hx hy)
theorem dDiv (h0 : y ≠ 0) : Ev (fun k => Hd.scalarDyad.f k ⟨#[37]⟩ (numS x) (numS y)) (told (fl x y)) := dy_ev 3 (by simp [Hd.sgDyad, lit_list]) hx hy (numDiv_ev x y hx hy h0)
theorem dMod (h0 : y ≠ 0) : Ev (fun k => Hd.scalarDyad.f k ⟨#[33]⟩ (numS x) (numS y)) (told (fm x y)) := dy_ev 4 (by simp [Hd.sgDyad, lit_list]) hx hy (numMod_ev x y hx hy h0)
theorem dMin : Ev (fun k => Hd.scalarDyad.f k ⟨#[38]⟩ (numS x) (numS y)) (if x ≤ y then numS x else numS y, 0) := dy_ev 5 (by simp [Hd.sgDyad, lit_list]) hx hy (by
  show Ev (fun k => SC.scalar_Dyad_1.f k (numS x) (numS y)) _
  refine Ev.bind (numCmp_ev x y hx hy) ?_
  rw [pick_s]
  by_cases h : x ≤ y
  · rw [if_pos h, if_pos (decide_eq_true (sgn_le.2 (by omega)))]
    exact Ev.now _
  · rw [if_neg h, if_neg (by rw [decide_eq_true_eq, sgn_le]; omega)]
    exact Ev.now _)
theorem dMax : Ev (fun k => Hd.scalarDyad.f k ⟨#[124]⟩ (numS x) (numS y)) (if y ≤ x then numS x else numS y, 0) := dy_ev 6 (by simp [Hd.sgDyad, lit_list]) hx hy (by
  show Ev (fun k => SC.scalar_Dyad_2.f k (numS x) (numS y)) _
  refine Ev.bind (numCmp_ev x y hx hy) ?_
  rw [pick_s]
  by_cases h : y ≤ x
  · rw [if_pos h, if_pos (decide_eq_true (sgn_ge.2 (by omega)))]
    exact Ev.now _
  · rw [if_neg h, if_neg (by rw [decide_eq_true_eq, sgn_ge]; omega)]
    exact Ev.now _)
theorem dLt : Ev (fun k => Hd.scalarDyad.f k ⟨#[60]⟩ (numS x) (numS y)) (numS (b01 (decide (x < y))), 0) := dy_ev 7 (by simp [Hd.sgDyad, lit_list]) hx hy (by
  show Ev (fun k => SC.scalar_Dyad_3.f k (numS x) (numS y)) _
  refine Ev.bind (numCmp_ev x y hx hy) ?_
  rw [told_s, show decide (sgn (x - y) < 0) = decide (x < y) from decide_eq_decide.2 (by rw [sgn_lt]; omega)]
  exact Ev.now _)
theorem dGt : Ev (fun k => Hd.scalarDyad.f k ⟨#[62]⟩ (numS x) (numS y)) (numS (b01 (decide (y < x))), 0) := dy_ev 8 (by simp [Hd.sgDyad, lit_list]) hx hy (by
  show Ev (fun k => SC.scalar_Dyad_4.f k (numS x) (numS y)) _
  refine Ev.bind (numCmp_ev x y hx hy) ?_
  rw [told_s, show decide (sgn (x - y) > 0) = decide (y < x) from decide_eq_decide.2 (by rw [sgn_gt]; omega)]
  exact Ev.now _)
omit hx hy in
theorem same_list : ((numS x).toList == (numS y).toList) = decide (x = y) := by
  rw [numS_list, numS_list]
  by_cases h : x = y
  · rw [h, beq_self_eq_true, decide_eq_true rfl]
  · rw [decide_eq_false h]
    exact beq_eq_false_iff_ne.mpr (fun e => h (itoa_inj e))
theorem dEq : Ev (fun k => Hd.scalarDyad.f k ⟨#[61]⟩ (numS x) (numS y)) (numS (b01 (decide (x = y))), 0) := dy_ev 9 (by simp [Hd.sgDyad, lit_list]) hx hy (by
  show Ev (fun k => SC.scalar_Dyad_5.f (numS x) (numS y)) _
  unfold SC.scalar_Dyad_5.f
  rw [told_s, same_list]
  exact Ev.now _)
theorem dNe : Ev (fun k => Hd.scalarDyad.f k ⟨#[126]⟩ (numS x) (numS y)) (numS (b01 (decide (x ≠ y))), 0) := dy_ev 10 (by simp [Hd.sgDyad, lit_list]) hx hy (by
  show Ev (fun k => SC.scalar_Dyad_6.f (numS x) (numS y)) _
  unfold SC.scalar_Dyad_6.f
  rw [told_s, show ((numS x).toList != (numS y).toList) = decide (x ≠ y) from by unfold bne; rw [same_list]; by_cases h : x = y <;> simp [h]]
  exact Ev.now _)
end
theorem dDiv0 {x : Int} (hx : Sm x) : Ev (fun k => Hd.scalarDyad.f k ⟨#[37]⟩ (numS x) (numS 0)) (BA [], 5) := dy_ev 3 (by simp [Hd.sgDyad, lit_list]) hx (sm_one (by omega)) (num_Div_zero x hx)
theorem dMod0 {x : Int} (hx : Sm x) : Ev (fun k => Hd.scalarDyad.f k ⟨#[33]⟩ (numS x) (numS 0)) (BA [], 5) := dy_ev 4 (by simp [Hd.sgDyad, lit_list]) hx (sm_one (by omega)) (num_Mod_zero x hx)
/-! ### the example at the head of all statements -/
theorem shownS : Ev (fun k => SL.reredoslaw12_shown.f k) true := by
  have e1 : (⟨#[45, 55]⟩ : ByteArray) = numS (-7) := litN 7 [55] (by decide) (by decide) (by decide) (by simp) (by decide)
  have e2 : (⟨#[50]⟩ : ByteArray) = numS 2 := litS 2 [50] (by decide) (by decide) (by decide) (by simp)
  have e3 : (⟨#[55]⟩ : ByteArray) = numS 7 := litS 7 [55] (by decide) (by decide) (by decide) (by simp)
  have e4 : (numS 3).toList = [51] := by rw [show numS 3 = BA [51] from (litS 3 [51] (by decide) (by decide) (by decide) (by simp)).symm, ba_list]
  have s1 : Sm (-7) := sm_i64 (by decide) (by decide)
  have s2 : Sm 2 := sm_i64 (by decide) (by decide)
  have s3 : Sm 7 := sm_i64 (by decide) (by decide)
  have t1 : told (fl 7 2) = (numS 3, 0) := by rw [show fl 7 2 = 3 from rfl]; exact if_pos (sm_i64 (z := 3) (by decide) (by decide))
  have t2 : told (fm 7 2) = (numS 1, 0) := by rw [show fm 7 2 = 1 from rfl]; exact if_pos (sm_i64 (z := 1) (by decide) (by decide))
  have t3 : told (fm (-7) 2) = (numS 1, 0) := by rw [show fm (-7) 2 = 1 from rfl]; exact if_pos (sm_i64 (z := 1) (by decide) (by decide))
  unfold SL.reredoslaw12_shown.f
  rw [e1, e2, e3]
  refine Ev.bind (dDiv s3 s2 (by decide)) (Ev.bind (dMod s3 s2 (by decide)) (Ev.bind (dMod s1 s2 (by decide)) ?_))
  rw [t1, t2, t3]
  simp only [if_true]
  rw [if_pos e4, if_pos one_list, if_pos one_list]
  have d1 : (⟨#[43, 45, 42, 37, 33, 38, 124, 60, 62, 61, 126]⟩ : ByteArray).toList = ([43, 45, 42, 37, 33, 38, 124, 60, 62, 61, 126] : List UInt8) := ba_list [43, 45, 42, 37, 33, 38, 124, 60, 62, 61, 126]
  have d2 : (⟨#[45, 126, 42]⟩ : ByteArray).toList = ([45, 126, 42] : List UInt8) := ba_list [45, 126, 42]
  unfold SC.scalar_Dyads.f SC.scalar_Monads.f
  simp only [Option.bind_some]
  rw [if_pos d1, d2]
  exact Ev.now _
end Go.Proofs.YtaidmohjnbibiaaGreatDoor.Nm
end
section
/- Which signs can be done with any two numbers: what scalar.Whole tells, sign by sign. -/
namespace Go.Proofs.YtaidmohjnbibiaaGreatDoor.Nm
open Go.Lib Go.RowKit Go.Proofs.YtaidmohjnbibiaaGreatDoorW.PrintWords Go.Proofs.YtaidmohjnbibiaaGreatDoorW.PrintLast Go.Proofs.YtaidmohjnbibiaaGreatDoor
set_option linter.unusedVariables false
set_option linter.unusedSimpArgs false
theorem ba_1 (l : List UInt8) (i : Nat) (h : i < l.length) : (BA l).extract i (i + 1) = BA [l.getD i 0] := by
  apply ByteArray.ext
  rw [ByteArray.data_extract]
  apply Array.ext'
  simp only [BA, Array.toList_extract, List.extract, Nat.add_sub_cancel_left]
  rw [List.drop_eq_getElem_cons h, List.take_succ_cons, List.take_zero, List.getD, List.getElem?_eq_getElem h]
  rfl
/-- the signs that can be done with any two numbers -/
def wholeC (c : UInt8) : Bool := ([43, 45, 42, 38, 124, 60, 62, 61, 126] : List UInt8).contains c
theorem idx_mem (c : UInt8) : ∀ l : List UInt8, decide (0 ≤ Lib.indexByte l c) = l.contains c
  | [] => rfl
  | b :: l => by
    have h := idx_mem c l
    have hg := Lib.indexByte_ge l c
    unfold Lib.indexByte
    rw [List.contains_cons]
    by_cases hb : b = c
    · subst hb
      simp
    · rw [if_neg (by simpa using hb), ← h]
      have hn : (c == b) = false := beq_eq_false_iff_ne.mpr (fun e => hb e.symm)
      rw [hn, Bool.false_or]
      by_cases h1 : Lib.indexByte l c = -1
      · rw [if_pos (beq_iff_eq.mpr h1), h1]
      · rw [if_neg (fun e => h1 (beq_iff_eq.mp e))]
        exact decide_eq_decide.2 (by omega)
theorem whole_c (c : UInt8) : SL.scalar_Whole.f ⟨#[c]⟩ = some (wholeC c) := by
  have hc : Hd.contains.f (⟨#[43, 45, 42, 37, 33, 38, 124, 60, 62, 61, 126]⟩ : ByteArray) ⟨#[c]⟩ = some (([43, 45, 42, 37, 33, 38, 124, 60, 62, 61, 126] : List UInt8).contains c) := by
    unfold Hd.contains.f
    rw [lit_list, if_pos (show [c].length = 1 from rfl)]
    exact congrArg some (idx_mem c _)
  unfold SL.scalar_Whole.f
  rw [if_pos (show ((⟨#[c]⟩ : ByteArray).size : Int) = 1 from rfl), hc, lit_list]
  simp only [Option.bind_some]
  unfold wholeC
  by_cases h : ([43, 45, 42, 37, 33, 38, 124, 60, 62, 61, 126] : List UInt8).contains c = true
  · have h' := h
    simp only [List.contains_cons, List.contains_nil, Bool.or_false, Bool.or_eq_true, beq_iff_eq] at h'
    rcases h' with e | e | e | e | e | e | e | e | e | e | e <;> (subst e; rfl)
  · rw [if_neg h]
    simp only [List.contains_cons, List.contains_nil, Bool.or_false, Bool.or_eq_true, beq_iff_eq, not_or] at h
    obtain ⟨a1, a2, a3, a4, a5, a6, a7, a8, a9, b1, b2⟩ := h
    simp [a1, a2, a3, a4, a5, a6, a7, a8, a9, b1, b2]
end Go.Proofs.YtaidmohjnbibiaaGreatDoor.Nm
end
