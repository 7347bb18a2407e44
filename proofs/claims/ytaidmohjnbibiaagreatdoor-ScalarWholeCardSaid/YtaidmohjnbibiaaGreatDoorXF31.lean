/- What the law leans on, part 32: declarations of several texts of ours, in their order. -/
import Derived.Test.YtaidmohjnbibiaaGreatDoorXF30
import Derived.Test.YtaidmohjnbibiaaGreatDoorXF28
import Derived.DataShut
section
/- ScalarWhole: what is whole has no error but that it is too large, whatever the numbers; what isn't has one by 0. Conditions: none but the statement's own. -/
namespace Go.Proofs.YtaidmohjnbibiaaGreatDoor.Pure
open Go.Lib Go.RowKit Go.Proofs.YtaidmohjnbibiaaGreatDoor.LScalarWhole Go.Proofs.YtaidmohjnbibiaaGreatDoorW.PrintWords Go.Proofs.YtaidmohjnbibiaaGreatDoorW.PrintLast Go.Proofs.YtaidmohjnbibiaaGreatDoor Go.Proofs.YtaidmohjnbibiaaGreatDoor.Nm
set_option linter.unusedVariables false
set_option linter.unusedSimpArgs false
/-- what a sign tells is a number, or too large -/
def fine (r : ByteArray × Int) : Prop := (∃ z, r = (numS z, 0) ∧ Sm z) ∨ r = (BA [], 8)
theorem fine_told (z : Int) : fine (told z) := by
  rcases told_or z with ⟨e, h⟩ | ⟨e, h⟩
  · exact .inl ⟨z, e, h⟩
  · exact .inr e
theorem fine_num {z : Int} (h : Sm z) : fine (numS z, 0) := .inl ⟨z, rfl, h⟩
theorem fine_ne {r : ByteArray × Int} (h : fine r) : r.2 ≠ 5 := by
  rcases h with ⟨z, rfl, _⟩ | rfl
  · exact (by decide : (0 : Int) ≠ 5)
  · exact (by decide : (8 : Int) ≠ 5)
theorem sm_b (p : Bool) : Sm (b01 p) := by cases p <;> exact sm_one (by decide)
/-- the end -/
theorem whole_end (r s : ByteArray × Int) (w : Bool) (b : ByteArray) (h1 : fine r ∨ (w = false ∧ b.toList = [48] ∧ r = (BA [], 5))) (h2 : w = true → s.2 ≠ 5) (h3 : w = false → s.2 = 5) :
    (if true = true then (if r.2 = 0 then ((K.num_May.f r.1).bind fun t110 => (if t110 = true then (if w = true then (if r.2 = 5 then (some false) else (some (s.2 != 5))) else (if s.2 = 5 then (some true) else (some false))) else (if r.2 = 8 then (if r.1.toList = ([] : List UInt8) then (if w = true then (if r.2 = 5 then (some false) else (some (s.2 != 5))) else (if s.2 = 5 then (some true) else (some false))) else (if w = true then (some false) else (if b.toList = ([48] : List UInt8) then (if r.2 = 5 then (if s.2 = 5 then (some true) else (some false)) else (some false)) else (some false)))) else (if w = true then (some false) else (if b.toList = ([48] : List UInt8) then (if r.2 = 5 then (if s.2 = 5 then (some true) else (some false)) else (some false)) else (some false)))))) else (if r.2 = 8 then (if r.1.toList = ([] : List UInt8) then (if w = true then (if r.2 = 5 then (some false) else (some (s.2 != 5))) else (if s.2 = 5 then (some true) else (some false))) else (if w = true then (some false) else (if b.toList = ([48] : List UInt8) then (if r.2 = 5 then (if s.2 = 5 then (some true) else (some false)) else (some false)) else (some false)))) else (if w = true then (some false) else (if b.toList = ([48] : List UInt8) then (if r.2 = 5 then (if s.2 = 5 then (some true) else (some false)) else (some false)) else (some false))))) else (some false)) = some true := by
  have e : ([] : List UInt8) = [] := rfl
  rcases h1 with (⟨z, rfl, hz⟩ | rfl) | ⟨rfl, hb, rfl⟩
  · cases w
    · simp [mayS hz, h3]
    · simp [mayS hz, h2]
  · cases w
    · simp [ba_list, h3]
    · simp [ba_list, h2]
  · simp [hb, h3]
/-- what a sign tells of two numbers, and of a number and 0 -/
theorem signs (c : UInt8) (hc : c ∈ ([43, 45, 42, 37, 33, 38, 124, 60, 62, 61, 126] : List UInt8)) (x y : Int) (hx : Sm x) (hy : Sm y) :
    (∃ r, Ev (fun k => Hd.scalarDyad.f k ⟨#[c]⟩ (numS x) (numS y)) r ∧ (fine r ∨ (wholeC c = false ∧ (numS y).toList = [48] ∧ r = (BA [], 5)))) := by
  simp only [List.mem_cons, List.not_mem_nil, or_false] at hc
  rcases hc with rfl | rfl | rfl | rfl | rfl | rfl | rfl | rfl | rfl | rfl | rfl
  · exact ⟨_, dAdd hx hy, .inl (fine_told _)⟩
  · exact ⟨_, dSub hx hy, .inl (fine_told _)⟩
  · exact ⟨_, dMul hx hy, .inl (fine_told _)⟩
  · by_cases h0 : y = 0
    · subst h0
      exact ⟨_, dDiv0 hx, .inr ⟨rfl, zero_list, rfl⟩⟩
    · exact ⟨_, dDiv hx hy h0, .inl (fine_told _)⟩
  · by_cases h0 : y = 0
    · subst h0
      exact ⟨_, dMod0 hx, .inr ⟨rfl, zero_list, rfl⟩⟩
    · exact ⟨_, dMod hx hy h0, .inl (fine_told _)⟩
  · refine ⟨_, dMin hx hy, .inl ?_⟩
    by_cases h : x ≤ y
    · rw [if_pos h]; exact fine_num hx
    · rw [if_neg h]; exact fine_num hy
  · refine ⟨_, dMax hx hy, .inl ?_⟩
    by_cases h : y ≤ x
    · rw [if_pos h]; exact fine_num hx
    · rw [if_neg h]; exact fine_num hy
  · exact ⟨_, dLt hx hy, .inl (fine_num (sm_b _))⟩
  · exact ⟨_, dGt hx hy, .inl (fine_num (sm_b _))⟩
  · exact ⟨_, dEq hx hy, .inl (fine_num (sm_b _))⟩
  · exact ⟨_, dNe hx hy, .inl (fine_num (sm_b _))⟩
theorem by_zero (c : UInt8) (hc : c ∈ ([43, 45, 42, 37, 33, 38, 124, 60, 62, 61, 126] : List UInt8)) (x : Int) (hx : Sm x) :
    ∃ r, Ev (fun k => Hd.scalarDyad.f k ⟨#[c]⟩ (numS x) (numS 0)) r ∧ (wholeC c = true → r.2 ≠ 5) ∧ (wholeC c = false → r.2 = 5) := by
  have s0 : Sm 0 := sm_one (by omega)
  by_cases h1 : c = 37
  · subst h1
    exact ⟨_, dDiv0 hx, fun h => by revert h; decide, fun _ => rfl⟩
  by_cases h2 : c = 33
  · subst h2
    exact ⟨_, dMod0 hx, fun h => by revert h; decide, fun _ => rfl⟩
  obtain ⟨r, h, hf⟩ := signs c hc x 0 hx s0
  have hw : wholeC c = true := by
    simp only [List.mem_cons, List.not_mem_nil, or_false] at hc
    rcases hc with rfl | rfl | rfl | rfl | rfl | rfl | rfl | rfl | rfl | rfl | rfl <;> first | rfl | exact absurd rfl h1 | exact absurd rfl h2
  refine ⟨r, h, fun _ => ?_, fun e => by rw [hw] at e; cases e⟩
  rcases hf with hf | ⟨e, _⟩
  · exact fine_ne hf
  · rw [hw] at e; cases e
/-- the sign at a place -/
theorem sign_at (j : Int) (h0 : 0 ≤ j) (h1 : j < 11) : ∃ c, c ∈ ([43, 45, 42, 37, 33, 38, 124, 60, 62, 61, 126] : List UInt8) ∧ (⟨#[43, 45, 42, 37, 33, 38, 124, 60, 62, 61, 126]⟩ : ByteArray).extract j.toNat (wrap64 (j + 1)).toNat = ⟨#[c]⟩ := by
  have hw : (wrap64 (j + 1)).toNat = j.toNat + 1 := by unfold wrap64; omega
  have hlt : j.toNat < ([43, 45, 42, 37, 33, 38, 124, 60, 62, 61, 126] : List UInt8).length := by show _ < 11; omega
  refine ⟨([43, 45, 42, 37, 33, 38, 124, 60, 62, 61, 126] : List UInt8).getD j.toNat 0, ?_, ?_⟩
  · rw [List.getD, List.getElem?_eq_getElem hlt]
    exact List.getElem_mem hlt
  · rw [hw]
    exact ba_1 _ _ hlt
theorem whole_j0 (n x y : Int) (hn : 0 ≤ n) (hn2 : n ≤ 255) (hx : Sm x) (hy : Sm y) : Ev (fun k => reredoslaw12_ScalarWhole.j0 k n (numS x) (numS y) true false) true := by
  refine Ev.step (f := ?f) (fun k => ?h) ?g
  case h => rw [reredoslaw12_ScalarWhole.j0]
  case g =>
    refine Ev.congr (fun k => if_neg Bool.false_ne_true) ?_
    unfold SC.scalar_Dyads.f
    simp only [Option.bind_some]
    rw [show ((⟨#[43, 45, 42, 37, 33, 38, 124, 60, 62, 61, 126]⟩ : ByteArray).size : Int) = 11 from rfl, zero_s]
    obtain ⟨j, hj⟩ : ∃ j, j = Int.tmod (wrap64 n) 11 := ⟨_, rfl⟩
    rw [← hj]
    rw [show wrap64 n = n from by unfold wrap64; omega, Int.tmod_eq_emod_of_nonneg hn] at hj
    have j0 : 0 ≤ j := by omega
    have j1 : j < 11 := by omega
    have hw : wrap64 (j + 1) = j + 1 := by unfold wrap64; omega
    obtain ⟨c, hc, hx1⟩ := sign_at j j0 j1
    rw [hx1]
    refine Ev.congr (fun k => (if_neg (by decide)).trans ((if_pos j0).trans ((if_pos (by rw [hw]; omega)).trans (if_pos (by rw [hw]; omega))))) ?_
    obtain ⟨r, hr, hf⟩ := signs c hc x y hx hy
    obtain ⟨s, hs, s1, s2⟩ := by_zero c hc x hx
    refine Ev.bind hr (Ev.bind hs ?_)
    rw [whole_c]
    exact Ev.congr (fun k => whole_end r s (wholeC c) (numS y) hf s1 s2) (Ev.now _)
theorem whole_none (n : Int) (a b : ByteArray) : Ev (fun k => reredoslaw12_ScalarWhole.j0 k n a b true true) true := by
  refine Ev.step (f := ?f) (fun k => ?h) ?g
  case h => rw [reredoslaw12_ScalarWhole.j0]
  case g => exact Ev.congr (fun k => if_pos rfl) (Ev.now _)
theorem ScalarWhole : reredoslaw12_ScalarWhole.Pure := by
  intro n a b hn _ _
  have hn' : 0 ≤ n ∧ n ≤ 255 := by have := (Lit.wf_int_iff .u8 n).mp hn; exact ⟨this.1, this.2⟩
  have h : Ev (fun k => reredoslaw12_ScalarWhole.f k n a b) true := by
    unfold reredoslaw12_ScalarWhole.f
    refine Ev.bind shownS ?_
    by_cases h1 : (a.size : Int) > 200
    · exact Ev.congr (fun k => if_pos h1) (whole_none n a b)
    refine Ev.congr (fun k => if_neg h1) ?_
    by_cases h2 : (b.size : Int) > 200
    · exact Ev.congr (fun k => if_pos h2) (whole_none n a b)
    refine Ev.congr (fun k => if_neg h2) ?_
    rcases num_or a with ⟨l, rfl, hl⟩ | ⟨x, rfl, hx⟩
    · rw [may_ev, hl]
      exact whole_none _ _ _
    rw [mayS hx]
    simp only [Option.bind_some, if_true]
    rcases num_or b with ⟨l, rfl, hl⟩ | ⟨y, rfl, hy⟩
    · rw [may_ev, hl]
      exact whole_none _ _ _
    rw [mayS hy]
    exact whole_j0 n x y hn'.1 hn'.2 hx hy
  exact h.rounds
end Go.Proofs.YtaidmohjnbibiaaGreatDoor.Pure
end
