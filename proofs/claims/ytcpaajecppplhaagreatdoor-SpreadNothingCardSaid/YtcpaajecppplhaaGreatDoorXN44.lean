/- What the law leans on, part 45: declarations of several texts of ours, in their order. -/
import Derived.Test.YtcpaajecppplhaaGreatDoorXN42
import Derived.Test.YtcpaajecppplhaaGreatDoorXN34
section
/- What scalar's functions tell of numbers, plainly: each sign, what is told where a text is no number, and the example at the head of all statements. -/
namespace Go.Proofs.YtcpaajecppplhaaGreatDoor.Nm
open Go.Lib Go.RowKit Go.Proofs.YtcpaajecppplhaaGreatDoorW.PrintWords Go.Proofs.YtcpaajecppplhaaGreatDoorW.PrintLast Go.Proofs.YtcpaajecppplhaaGreatDoor
set_option linter.unusedVariables false
set_option linter.unusedSimpArgs false
theorem sgn_gt {x : Int} : (sgn x > 0) ↔ 0 < x := by unfold sgn; split <;> (try split) <;> omega
theorem sgn_lt {x : Int} : (sgn x < 0) ↔ x < 0 := by unfold sgn; split <;> (try split) <;> omega
theorem sgn_le {x : Int} : (sgn x ≤ 0) ↔ x ≤ 0 := by unfold sgn; split <;> (try split) <;> omega
theorem sgn_ge {x : Int} : (sgn x ≥ 0) ↔ 0 ≤ x := by unfold sgn; split <;> (try split) <;> omega
theorem sm_one {z : Int} (h : z = -1 ∨ z = 0 ∨ z = 1) : Sm z := sm_i64 (by omega) (by omega)
theorem lit_list (c : UInt8) : (⟨#[c]⟩ : ByteArray).toList = [c] := ba_list [c]
theorem one_s : (⟨#[49]⟩ : ByteArray) = numS 1 := litS 1 [49] (by decide) (by decide) (by decide) (by simp)
theorem zero_s : (⟨#[48]⟩ : ByteArray) = numS 0 := by
  show _ = BA (itoa 0)
  rw [(itoa_zero_iff 0).2 rfl, BA]
/-- one or nothing -/
def b01 (p : Bool) : Int := if p then 1 else 0
theorem told_s (p : Bool) : SC.scalar_told.f p = some (numS (b01 p)) := by
  unfold SC.scalar_told.f b01
  cases p
  · rw [if_neg (by decide), zero_s]; rfl
  · rw [if_pos rfl, one_s]; rfl
theorem pick_s (p : Bool) (a b : ByteArray) : SC.scalar_pick.f p a b = some (if p = true then a else b, 0) := by
  unfold SC.scalar_pick.f
  cases p <;> rfl
/-! ### a sign and two numbers -/
theorem dy_ev {op : ByteArray} (i : Nat) (hi : Hd.sgDyad op = i + 1) {x y : Int} (hx : Sm x) (hy : Sm y) {r : ByteArray × Int} (h : Ev (fun k => Hd.doesDyad (i + 1) k (numS x) (numS y)) r) : Ev (fun k => Hd.scalarDyad.f k op (numS x) (numS y)) r := by
  refine Ev.congr (fun k => ?_) h
  unfold Hd.scalarDyad.f
  rw [hi, if_neg (by omega), mayS hx, mayS hy]
  rfl
theorem dy_no (op : ByteArray) (l m : List UInt8) (h : mayL l = false ∨ mayL m = false) (k : Nat) : Hd.scalarDyad.f k op (BA l) (BA m) = some (BA [], 1) := by
  unfold Hd.scalarDyad.f
  rw [may_ev, may_ev]
  split
  · rfl
  · simp only [Option.bind_some]
    rcases h with h | h
    · rw [h]; rfl
    · rw [h]; cases mayL l <;> rfl
theorem dy_none (op : ByteArray) (h : Hd.sgDyad op = 0) (a b : ByteArray) (k : Nat) : Hd.scalarDyad.f k op a b = some (BA [], 1) := by
  unfold Hd.scalarDyad.f
  rw [if_pos h, BA]
section
variable {x y : Int} (hx : Sm x) (hy : Sm y)
include hx hy
theorem dAdd : Ev (fun k => Hd.scalarDyad.f k ⟨#[43]⟩ (numS x) (numS y)) (told (x + y)) := dy_ev 0 (by simp [Hd.sgDyad, lit_list]) hx hy (numAdd_ev x y hx hy)
theorem dSub : Ev (fun k => Hd.scalarDyad.f k ⟨#[45]⟩ (numS x) (numS y)) (told (x - y)) := dy_ev 1 (by simp [Hd.sgDyad, lit_list]) hx hy (numSub_ev x y hx hy)
theorem dMul : Ev (fun k => Hd.scalarDyad.f k ⟨#[42]⟩ (numS x) (numS y)) (told (x * y)) := dy_ev 2 (by simp [Hd.sgDyad, lit_list]) hx hy (numMul_ev x y hx hy)
theorem dDiv (h0 : y ≠ 0) : Ev (fun k => Hd.scalarDyad.f k ⟨#[37]⟩ (numS x) (numS y)) (told (fl x y)) := dy_ev 3 (by simp [Hd.sgDyad, lit_list]) hx hy (numDiv_ev x y hx hy h0)
theorem dMod (h0 : y ≠ 0) : Ev (fun k => Hd.scalarDyad.f k ⟨#[33]⟩ (numS x) (numS y)) (told (fm x y)) := dy_ev 4 (by simp [Hd.sgDyad, lit_list]) hx hy (numMod_ev x y hx hy h0)
theorem dMin : Ev (fun k => Hd.scalarDyad.f k ⟨#[38]⟩ (numS x) (numS y)) (if x ≤ y then numS x else numS y, 0) := dy_ev 5 (by simp [Hd.sgDyad, lit_list]) hx hy (by
  show Ev (fun k => SC.scalar_Dyad_1.f k (numS x) (numS y)) _
  refine Ev.bind (numCmp_ev x y hx hy) ?_
  rw [pick_s]
  by_cases h : x ≤ y
  · rw [if_pos h, if_pos (decide_eq_true (sgn_le.2 (by omega)))]
    exact Ev.now _
  · rw [if_neg h, if_neg (by rw [decide_eq_true_eq, sgn_le]; omega)]
    exact Ev.now _)
theorem dMax : Ev (fun k => Hd.scalarDyad.f k ⟨#[124]⟩ (numS x) (numS y)) (if y ≤ x then numS x else numS y, 0) := dy_ev 6 (by simp [Hd.sgDyad, lit_list]) hx hy (by
  show Ev (fun k => SC.scalar_Dyad_2.f k (numS x) (numS y)) _
  refine Ev.bind (numCmp_ev x y hx hy) ?_
  rw [pick_s]
  by_cases h : y ≤ x
  · rw [if_pos h, if_pos (decide_eq_true (sgn_ge.2 (by omega)))]
    exact Ev.now _
  · rw [if_neg h, if_neg (by rw [decide_eq_true_eq, sgn_ge]; omega)]
    exact Ev.now _)
theorem dLt : Ev (fun k => Hd.scalarDyad.f k ⟨#[60]⟩ (numS x) (numS y)) (numS (b01 (decide (x < y))), 0) := dy_ev 7 (by simp [Hd.sgDyad, lit_list]) hx hy (by
  show Ev (fun k => SC.scalar_Dyad_3.f k (numS x) (numS y)) _
  refine Ev.bind (numCmp_ev x y hx hy) ?_
  rw [told_s, show decide (sgn (x - y) < 0) = decide (x < y) from decide_eq_decide.2 (by rw [sgn_lt]; omega)]
  exact Ev.now _)
theorem dGt : Ev (fun k => Hd.scalarDyad.f k ⟨#[62]⟩ (numS x) (numS y)) (numS (b01 (decide (y < x))), 0) := dy_ev 8 (by simp [Hd.sgDyad, lit_list]) hx hy (by
  show Ev (fun k => SC.scalar_Dyad_4.f k (numS x) (numS y)) _
  refine Ev.bind (numCmp_ev x y hx hy) ?_
  rw [told_s, show decide (sgn (x - y) > 0) = decide (y < x) from decide_eq_decide.2 (by rw [sgn_gt]; omega)]
  exact Ev.now _)
omit hx hy in
theorem same_list : ((numS x).toList == (numS y).toList) = decide (x = y) := by
  rw [numS_list, numS_list]
  by_cases h : x = y
  · rw [h, beq_self_eq_true, decide_eq_true rfl]
  · rw [decide_eq_false h]
    exact beq_eq_false_iff_ne.mpr (fun e => h (itoa_inj e))
theorem dEq : Ev (fun k => Hd.scalarDyad.f k ⟨#[61]⟩ (numS x) (numS y)) (numS (b01 (decide (x = y))), 0) := dy_ev 9 (by simp [Hd.sgDyad, lit_list]) hx hy (by
  show Ev (fun k => SC.scalar_Dyad_5.f (numS x) (numS y)) _
  unfold SC.scalar_Dyad_5.f
  rw [told_s, same_list]
  exact Ev.now _)
theorem dNe : Ev (fun k => Hd.scalarDyad.f k ⟨#[126]⟩ (numS x) (numS y)) (numS (b01 (decide (x ≠ y))), 0) := dy_ev 10 (by simp [Hd.sgDyad, lit_list]) hx hy (by
  show Ev (fun k => SC.scalar_Dyad_6.f (numS x) (numS y)) _
  unfold SC.scalar_Dyad_6.f
  rw [told_s, show ((numS x).toList != (numS y).toList) = decide (x ≠ y) from by unfold bne; rw [same_list]; by_cases h : x = y <;> simp [h]]
  exact Ev.now _)
end
theorem dDiv0 {x : Int} (hx : Sm x) : Ev (fun k => Hd.scalarDyad.f k ⟨#[37]⟩ (numS x) (numS 0)) (BA [], 5) := dy_ev 3 (by simp [Hd.sgDyad, lit_list]) hx (sm_one (by omega)) (num_Div_zero x hx)
theorem dMod0 {x : Int} (hx : Sm x) : Ev (fun k => Hd.scalarDyad.f k ⟨#[33]⟩ (numS x) (numS 0)) (BA [], 5) := dy_ev 4 (by simp [Hd.sgDyad, lit_list]) hx (sm_one (by omega)) (num_Mod_zero x hx)
theorem anyDyad (op a b : ByteArray) : ∃ r, Ev (fun k => Hd.scalarDyad.f k op a b) r := by
  rcases num_or a with ⟨l, rfl, hl⟩ | ⟨x, rfl, hx⟩
  · obtain ⟨m, rfl⟩ : ∃ m, b = BA m := ⟨_, ba_of b⟩
    exact ⟨_, Ev.congr (fun k => dy_no op l m (.inl hl) k) (Ev.now _)⟩
  · rcases num_or b with ⟨m, rfl, hm⟩ | ⟨y, rfl, hy⟩
    · exact ⟨_, Ev.congr (fun k => dy_no op (itoa x) m (.inr hm) k) (Ev.now _)⟩
    · rcases Hd.sgDyad_or op with ⟨h0, _⟩ | ⟨rfl, _⟩ | ⟨rfl, _⟩ | ⟨rfl, _⟩ | ⟨rfl, _⟩ | ⟨rfl, _⟩ | ⟨rfl, _⟩ | ⟨rfl, _⟩ | ⟨rfl, _⟩ | ⟨rfl, _⟩ | ⟨rfl, _⟩ | ⟨rfl, _⟩
      · exact ⟨_, Ev.congr (fun k => dy_none op h0 _ _ k) (Ev.now _)⟩
      · exact ⟨_, dAdd hx hy⟩
      · exact ⟨_, dSub hx hy⟩
      · exact ⟨_, dMul hx hy⟩
      · by_cases h0 : y = 0
        · subst h0; exact ⟨_, dDiv0 hx⟩
        · exact ⟨_, dDiv hx hy h0⟩
      · by_cases h0 : y = 0
        · subst h0; exact ⟨_, dMod0 hx⟩
        · exact ⟨_, dMod hx hy h0⟩
      · exact ⟨_, dMin hx hy⟩
      · exact ⟨_, dMax hx hy⟩
      · exact ⟨_, dLt hx hy⟩
      · exact ⟨_, dGt hx hy⟩
      · exact ⟨_, dEq hx hy⟩
      · exact ⟨_, dNe hx hy⟩
end Go.Proofs.YtcpaajecppplhaaGreatDoor.Nm
end
