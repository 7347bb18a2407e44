/- What the law leans on, part 46: declarations of several texts of ours, in their order. -/
import Derived.Test.YtcpaajecppplhaaGreatDoorXN37
import Derived.Test.YtcpaajecppplhaaGreatDoorXN38
import Derived.Test.YtcpaajecppplhaaGreatDoorXN43
import Derived.Test.YtcpaajecppplhaaGreatDoorXN44
section
/-! spread's functions, plainly. -/
namespace Go.Proofs.YtcpaajecppplhaaGreatDoor.Am
open Go Go.RowKit Go.Proofs.YtcpaajecppplhaaGreatDoorW.PrintWords Go.Proofs.YtcpaajecppplhaaGreatDoorW.PrintLast Go.Proofs.YtcpaajecppplhaaGreatDoor Go.Proofs.YtcpaajecppplhaaGreatDoor.Nm Go.Proofs.YtcpaajecppplhaaGreatDoor.Sh Go.Proofs.YtcpaajecppplhaaGreatDoor.Tx
set_option linter.unusedVariables false
set_option linter.unusedSimpArgs false
/-! ### an array's elements as lists of bytes -/
def toL (e : List ByteArray) : List L8 := e.map fun b => b.data.toList
theorem mB_toL (e : List ByteArray) : mB (toL e) = e := by
  unfold mB toL
  rw [List.map_map]
  conv => rhs; rw [← List.map_id e]
  refine List.map_congr_left fun b _ => ?_
  simp [BA]
theorem toL_len (e : List ByteArray) : (toL e).length = e.length := List.length_map _
def good (s : List Int) (e : List ByteArray) : Bool := goodB s (toL e)
theorem good_size {s : List Int} {e : List ByteArray} (h : good s e = true) : sizeS s = ((e.length : Int), 0) := by
  have := ((good_iff _ _).1 h).1
  rwa [toL_len] at this
theorem good_all {s : List Int} {e : List ByteArray} (h : good s e = true) : ∀ b ∈ e, mayL b.data.toList = true := fun b hb =>
  ((good_iff _ _).1 h).2 _ (List.mem_map_of_mem hb)
theorem good_few {s : List Int} {e : List ByteArray} (h : good s e = true) : e.length ≤ 4096 := by
  obtain ⟨_, _, h⟩ := size_ok (good_size h)
  rcases h with ⟨_, h⟩ | ⟨_, _, _, h⟩ <;> omega
theorem may_runs (s : List Int) (e : List ByteArray) (c d : Option Nat) (hs : s.length ≤ 9223372036854775807) : Runs Tryz.prog 25 [vD s e c d] (bD (good s e)) := by
  obtain ⟨k, h⟩ := (vmay_ev s (toL e) hs).rounds
  rw [mB_toL] at h
  exact val_May.runs k s e _ c d h
theorem vsame_runs (s : List Int) (e : List ByteArray) (s2 : List Int) (e2 : List ByteArray) (c d c2 d2 : Option Nat) (h1 : s.length ≤ 9000000000000000000) (h2 : e.length ≤ 9000000000000000000) : Runs Tryz.prog 26 [vD s e c d, vD s2 e2 c2 d2] (bD (decide (s = s2 ∧ e = e2))) := by
  obtain ⟨k, h⟩ := (vsame_ev s (toL e) s2 (toL e2) h1 (by rwa [toL_len])).rounds
  rw [mB_toL, mB_toL] at h
  have e0 : decide (s = s2 ∧ toL e = toL e2) = decide (s = s2 ∧ e = e2) := by
    refine decide_eq_decide.2 ⟨fun h => ⟨h.1, ?_⟩, fun h => ⟨h.1, by rw [h.2]⟩⟩
    rw [← mB_toL e, ← mB_toL e2, h.2]
  rw [e0] at h
  exact val_Same.runs k s e s2 e2 _ c d c2 d2 h
/-! ### which signs spread -/
def opsB (op : ByteArray) : Bool := (SV.spread_Ops.f op).getD false
theorem ops_now (op : ByteArray) : SV.spread_Ops.f op = some (opsB op) := by
  have : ∃ b, SV.spread_Ops.f op = some b := by
    unfold SV.spread_Ops.f SC.scalar_Dyads.f SV.spread_sign.f Hd.contains.f
    simp only [Option.bind_some]
    by_cases h : (op.size : Int) = 1
    · have hl : op.toList.length = 1 := by
        have e : op.toList = op.data.toList := ba_list op.data.toList
        rw [e]
        have : op.size = 1 := by omega
        simpa using this
      rw [if_pos h, if_pos hl]
      exact ⟨_, rfl⟩
    · rw [if_neg h]
      exact ⟨_, rfl⟩
  obtain ⟨b, h⟩ := this
  unfold opsB
  rw [h]
  rfl
theorem ops_runs (op : ByteArray) : Runs Tryz.prog 28 [sD op] (bD (opsB op)) := spread_Ops.runs op _ (ops_now op)
/-! ### shapes -/
theorem meet_runs (a b : List Int) (c d : Option Nat) (ha : a.length ≤ 1000000) (hb : b.length ≤ 1000000) : Runs Tryz.prog 76 [rI a c, rI b d] (.tup [rI (meetS a b).1 none, iD (meetS a b).2]) := by
  obtain ⟨k, h⟩ := (meet_ev a b (by omega) (by omega)).rounds
  exact shape_Meet.runs k a b _ _ c d h
theorem size_runs (a : List Int) (c : Option Nat) (ha : a.length ≤ 1000000) : Runs Tryz.prog 65 [rI a c] (.tup [iD (sizeS a).1, iD (sizeS a).2]) := by
  obtain ⟨k, h⟩ := (size_ev a (by omega)).rounds
  exact shape_Size.runs k a _ _ c h
/-! ### one element, and one by one -/
noncomputable def sd (op a b : ByteArray) : ByteArray × Int := Classical.choose (anyDyad op a b)
theorem sd_ev (op a b : ByteArray) : Ev (fun k => Hd.scalarDyad.f k op a b) (sd op a b) := Classical.choose_spec (anyDyad op a b)
theorem sd_is {op a b : ByteArray} {r : ByteArray × Int} (h : Ev (fun k => Hd.scalarDyad.f k op a b) r) : sd op a b = r := by
  obtain ⟨K1, h1⟩ := sd_ev op a b
  obtain ⟨K2, h2⟩ := h
  exact Option.some.inj ((h1 (K1 + K2) (by omega)).symm.trans (h2 (K1 + K2) (by omega)))
theorem sd_runs (op a b : ByteArray) : Runs Tryz.prog 42 [sD op, sD a, sD b] (.tup [sD (sd op a b).1, iD (sd op a b).2]) := by
  obtain ⟨k, h⟩ := (sd_ev op a b).rounds
  exact scalarDyad.runs k op a b _ _ h
def atS (s : List Int) (e : List ByteArray) (i : Nat) : ByteArray := if s = [] then e.getD 0 ByteArray.empty else e.getD i ByteArray.empty
theorem at_runs {s : List Int} {e : List ByteArray} (c d : Option Nat) {i : Nat} (h0 : s = [] → 0 < e.length) (h1 : s ≠ [] → i < e.length) : Runs Tryz.prog 138 [vD s e c d, iD i] (sD (atS s e i)) := by
  refine spread_at.runs s e i _ c d ?_
  unfold SV.spread_at.f atS
  by_cases hs : s = []
  · have := h0 hs
    rw [if_pos (by simp [hs]), if_pos (by omega), if_pos hs]
    rfl
  · have := h1 hs
    rw [if_neg (by simpa using hs), if_pos (by omega), if_pos (by omega), if_neg hs]
    rfl
/-- what two arrays are together -/
noncomputable def dyR (op : ByteArray) (s1 : List Int) (e1 : List ByteArray) (s2 : List Int) (e2 : List ByteArray) (i : Nat) : ByteArray × Int := sd op (atS s1 e1 i) (atS s2 e2 i)
noncomputable def dyN (s1 s2 : List Int) : Nat := (sizeS (meetS s1 s2).1).1.toNat
noncomputable def dyO (op : ByteArray) (s1 : List Int) (e1 : List ByteArray) (s2 : List Int) (e2 : List ByteArray) : (List Int × List ByteArray) × Int :=
  if good s1 e1 = true ∧ good s2 e2 = true ∧ opsB op = true then
    if (meetS s1 s2).2 = 0 then
      match (List.range (dyN s1 s2)).find? (fun i => decide ((dyR op s1 e1 s2 e2 i).2 ≠ 0)) with
      | some z => (([], []), (dyR op s1 e1 s2 e2 z).2)
      | none => (((meetS s1 s2).1, (List.range (dyN s1 s2)).map fun i => (dyR op s1 e1 s2 e2 i).1), 0)
    else (([], []), (meetS s1 s2).2)
  else (([], []), 1)
theorem meet_ok {s1 s2 : List Int} {e1 e2 : List ByteArray} (g1 : good s1 e1 = true) (g2 : good s2 e2 = true) (hm : (meetS s1 s2).2 = 0) :
    sizeS (meetS s1 s2).1 = ((dyN s1 s2 : Int), 0) ∧ dyN s1 s2 ≤ 4096 ∧ (∀ i, i < dyN s1 s2 → (s1 = [] → 0 < e1.length) ∧ (s1 ≠ [] → i < e1.length)) ∧ (∀ i, i < dyN s1 s2 → (s2 = [] → 0 < e2.length) ∧ (s2 ≠ [] → i < e2.length)) ∧ ((meetS s1 s2).1 = s1 ∧ dyN s1 s2 = e1.length ∨ (meetS s1 s2).1 = s2 ∧ dyN s1 s2 = e2.length) := by
  have z1 := good_size g1
  have z2 := good_size g2
  have f1 := good_few g1
  have f2 := good_few g2
  have hnil : ∀ {s : List Int} {e : List ByteArray}, sizeS s = ((e.length : Int), 0) → s = [] → 0 < e.length := fun {s e} h hs => by
    subst hs
    have h0 : sizeS [] = (1, 0) := by decide
    rw [h0] at h
    have := congrArg Prod.fst h
    simp only at this
    omega
  have n1 := hnil z1
  have n2 := hnil z2
  unfold dyN
  unfold meetS at hm ⊢
  split at hm
  · rename_i hc
    rw [if_pos hc]
    simp only [z1]
    refine ⟨by simp, by simpa using f1, fun i hi => ⟨n1, fun _ => by simpa using hi⟩, fun i hi => ⟨n2, fun hne => ?_⟩, .inl ⟨by simp, by simp⟩⟩
    rcases hc with rfl | hc
    · rw [z1] at z2
      have := congrArg Prod.fst z2
      simp only at this
      simp only [Int.toNat_natCast] at hi
      omega
    · exact absurd hc hne
  · rename_i hc
    split at hm
    · rename_i ha
      rw [if_neg hc, if_pos ha]
      simp only [z2]
      exact ⟨by simp, by simpa using f2, fun i hi => ⟨n1, fun hne => absurd ha hne⟩, fun i hi => ⟨n2, fun _ => by simpa using hi⟩, .inr ⟨by simp, by simp⟩⟩
    · simp at hm
theorem dyad_runs (op : ByteArray) (s1 : List Int) (e1 : List ByteArray) (s2 : List Int) (e2 : List ByteArray) (c1 d1 c2 d2 : Option Nat) (l1 : s1.length ≤ 1000000) (l2 : s2.length ≤ 1000000) :
    Runs Tryz.prog 29 [sD op, vD s1 e1 c1 d1, vD s2 e2 c2 d2] (.tup [vD (dyO op s1 e1 s2 e2).1.1 (dyO op s1 e1 s2 e2).1.2 none none, iD (dyO op s1 e1 s2 e2).2]) := by
  have m1 := may_runs s1 e1 c1 d1 (by omega)
  have m2 := may_runs s2 e2 c2 d2 (by omega)
  have o := ops_runs op
  unfold dyO
  cases g1 : good s1 e1 with
  | false => rw [g1] at m1; rw [if_neg (by simp)]; exact dyad_no1 m1
  | true =>
    cases g2 : good s2 e2 with
    | false => rw [g1] at m1; rw [g2] at m2; rw [if_neg (by simp)]; exact dyad_no2 m1 m2
    | true =>
      cases ho : opsB op with
      | false => rw [g1] at m1; rw [g2] at m2; rw [ho] at o; rw [if_neg (by simp)]; exact dyad_no3 m1 m2 o
      | true =>
        rw [g1] at m1
        rw [g2] at m2
        rw [ho] at o
        rw [if_pos ⟨rfl, rfl, rfl⟩]
        have hme := meet_runs s1 s2 c1 c2 l1 l2
        by_cases hm : (meetS s1 s2).2 = 0
        · rw [if_pos hm]
          obtain ⟨k1, k2, k3, k4, k5⟩ := meet_ok g1 g2 hm
          rw [hm] at hme
          have hsz := size_runs (meetS s1 s2).1 none (by rcases k5 with ⟨h, _⟩ | ⟨h, _⟩ <;> rw [h] <;> assumption)
          rw [k1] at hsz
          have run := fun {z : Nat} {res : D} => dyad_run (z := z) (res := res) (r := dyR op s1 e1 s2 e2) m1 m2 o hme hsz (fun i hi => at_runs c1 d1 (k3 i hi).1 (k3 i hi).2) (fun i hi => at_runs c2 d2 (k4 i hi).1 (k4 i hi).2) (fun i _ => sd_runs op _ _) (by omega)
          split
          · rename_i z hz
            rw [List.find?_eq_some_iff_append] at hz
            obtain ⟨hzb, l0, l3, hz1, hz2⟩ := hz
            have hlen : l0.length = z := by
              have := congrArg (fun l => l[l0.length]?) hz1
              simp only [List.getElem?_append_right (Nat.le_refl _), Nat.sub_self, List.getElem?_cons_zero] at this
              have h2 := (List.getElem?_eq_some_iff.1 this).2
              simpa using h2
            have hzn : z < dyN s1 s2 := by
              have := congrArg List.length hz1
              simp only [List.length_range, List.length_append, List.length_cons] at this
              omega
            refine run (z := z) (fun i hi => ?_) (.inr ⟨hzn, by simpa using hzb, rfl⟩)
            have hmem : i ∈ l0 := by
              have h3 : (List.range (dyN s1 s2))[i]? = some i := by simp [show i < dyN s1 s2 by omega]
              rw [hz1, List.getElem?_append_left (by omega)] at h3
              exact List.mem_of_getElem? h3
            simpa using hz2 i hmem
          · rename_i hz
            rw [List.find?_eq_none] at hz
            refine (run (z := dyN s1 s2) (fun i hi => by simpa using hz i (List.mem_range.2 hi)) (.inl ⟨rfl, rfl⟩)).tel (Tels.refl _) ?_
            have : rS ((List.range (dyN s1 s2)).map fun i => (dyR op s1 e1 s2 e2 i).1) none = .sl 1 ((List.range (dyN s1 s2)).map fun j => sD (dyR op s1 e1 s2 e2 j).1) (dyN s1 s2) none := by simp [List.map_map, Function.comp_def]
            show Tel _ (.tup [.agg [rI (meetS s1 s2).1 none, rS ((List.range (dyN s1 s2)).map fun i => (dyR op s1 e1 s2 e2 i).1) none], iD 0])
            rw [this]
            exact .refl _
        · rw [if_neg hm]
          exact dyad_no4 hm m1 m2 o hme
end Go.Proofs.YtcpaajecppplhaaGreatDoor.Am
end
section
namespace Go.Proofs.YtcpaajecppplhaaGreatDoor.Am
open Go Go.RowKit Go.Proofs.YtcpaajecppplhaaGreatDoorW.PrintWords Go.Proofs.YtcpaajecppplhaaGreatDoorW.PrintLast Go.Proofs.YtcpaajecppplhaaGreatDoor Go.Proofs.YtcpaajecppplhaaGreatDoor.Nm Go.Proofs.YtcpaajecppplhaaGreatDoor.Sh Go.Proofs.YtcpaajecppplhaaGreatDoor.Tx
set_option linter.unusedVariables false
set_option linter.unusedSimpArgs false
set_option maxRecDepth 100000
theorem few_runs (s : List Int) (e : List ByteArray) (c d : Option Nat) : ∃ b, (b = true → s.length ≤ 20 ∧ e.length ≤ 300 ∧ ∀ x ∈ e, x.size ≤ 120) ∧ Runs Tryz.prog 19 [vD s e c d] (bD b) := by
  obtain ⟨b, hb, h⟩ := few_ev s (toL e)
  obtain ⟨k, h⟩ := h.rounds
  rw [mB_toL] at h
  refine ⟨b, fun hb' => ?_, reredosref04_Few.runs k s e _ c d h⟩
  obtain ⟨f1, f2, f3⟩ := hb hb'
  rw [toL_len] at f1
  exact ⟨f2, f1, fun x hx => f3 _ (List.mem_map_of_mem hx)⟩
theorem vector_runs (l : List ByteArray) (c : Option Nat) (hl : l.length < 8796093022208) : Runs Tryz.prog 73 [rS l c] (vD [(l.length : Int)] l none none) := by
  refine val_Vector.runs l _ _ c ?_
  unfold TV.val_Vector.f Hd.clone_str.f
  rw [if_pos hl]
  rfl
theorem scalar_runs (a : ByteArray) : Runs Tryz.prog 30 [sD a] (vD [] [a] none none) := val_Scalar.runs a _ _ rfl
/-! ### numbers -/
theorem may_num {b : ByteArray} (h : mayL b.data.toList = true) : ∃ x, b = numS x ∧ Nm.Sm x := by
  rcases num_or b with ⟨l, rfl, hl⟩ | ⟨x, rfl, hx⟩
  · rw [show (BA l).data.toList = l by simp [BA]] at h
    rw [h] at hl
    cases hl
  · exact ⟨x, rfl, hx⟩
theorem told_sound (z : Int) : (told z).2 ≠ 4 ∧ ((told z).2 = 0 → ∃ y, Nm.Sm y ∧ (told z).1 = numS y) := by
  unfold told
  split
  · rename_i h; exact ⟨show (0 : Int) ≠ 4 by decide, fun _ => ⟨z, h, rfl⟩⟩
  · exact ⟨by decide, fun h => absurd h (by decide)⟩
theorem sm_b01 (p : Bool) : Nm.Sm (b01 p) := sm_one (by cases p <;> simp [b01])
theorem sd_sound (op : ByteArray) {x y : Int} (hx : Nm.Sm x) (hy : Nm.Sm y) : (sd op (numS x) (numS y)).2 ≠ 4 ∧ ((sd op (numS x) (numS y)).2 = 0 → ∃ z, Nm.Sm z ∧ (sd op (numS x) (numS y)).1 = numS z) := by
  have ok : ∀ {z : Int}, Nm.Sm z → (numS z, (0 : Int)).2 ≠ 4 ∧ ((numS z, (0 : Int)).2 = 0 → ∃ y, Nm.Sm y ∧ (numS z, (0 : Int)).1 = numS y) := fun {z} h => ⟨show (0 : Int) ≠ 4 by decide, fun _ => ⟨z, h, rfl⟩⟩
  have no : ∀ {b : ByteArray} {n : Int}, n ≠ 4 → n ≠ 0 → (b, n).2 ≠ 4 ∧ ((b, n).2 = 0 → ∃ y, Nm.Sm y ∧ (b, n).1 = numS y) := fun h h' => ⟨h, fun e => absurd e h'⟩
  rcases Hd.sgDyad_or op with ⟨h0, _⟩ | ⟨rfl, _⟩ | ⟨rfl, _⟩ | ⟨rfl, _⟩ | ⟨rfl, _⟩ | ⟨rfl, _⟩ | ⟨rfl, _⟩ | ⟨rfl, _⟩ | ⟨rfl, _⟩ | ⟨rfl, _⟩ | ⟨rfl, _⟩ | ⟨rfl, _⟩
  · rw [sd_is (Ev.congr (fun k => dy_none op h0 _ _ k) (Ev.now _))]; exact no (by decide) (by decide)
  · rw [sd_is (dAdd hx hy)]; exact told_sound _
  · rw [sd_is (dSub hx hy)]; exact told_sound _
  · rw [sd_is (dMul hx hy)]; exact told_sound _
  · by_cases h0 : y = 0
    · subst h0; rw [sd_is (dDiv0 hx)]; exact no (by decide) (by decide)
    · rw [sd_is (dDiv hx hy h0)]; exact told_sound _
  · by_cases h0 : y = 0
    · subst h0; rw [sd_is (dMod0 hx)]; exact no (by decide) (by decide)
    · rw [sd_is (dMod hx hy h0)]; exact told_sound _
  · rw [sd_is (dMin hx hy)]; split; exact ok hx; exact ok hy
  · rw [sd_is (dMax hx hy)]; split; exact ok hx; exact ok hy
  · rw [sd_is (dLt hx hy)]; exact ok (sm_b01 _)
  · rw [sd_is (dGt hx hy)]; exact ok (sm_b01 _)
  · rw [sd_is (dEq hx hy)]; exact ok (sm_b01 _)
  · rw [sd_is (dNe hx hy)]; exact ok (sm_b01 _)
theorem atS_mem {s : List Int} {e : List ByteArray} {i : Nat} (h0 : s = [] → 0 < e.length) (h1 : s ≠ [] → i < e.length) : atS s e i ∈ e := by
  unfold atS
  by_cases hs : s = []
  · have := h0 hs
    rw [if_pos hs, List.getD_eq_getElem?_getD, List.getElem?_eq_getElem this]; exact List.getElem_mem _
  · have := h1 hs
    rw [if_neg hs, List.getD_eq_getElem?_getD, List.getElem?_eq_getElem this]; exact List.getElem_mem _
/-- each pair is a pair of numbers -/
theorem dyR_num (op : ByteArray) {s1 s2 : List Int} {e1 e2 : List ByteArray} (g1 : good s1 e1 = true) (g2 : good s2 e2 = true) (hm : (meetS s1 s2).2 = 0) {i : Nat} (hi : i < dyN s1 s2) :
    ∃ x y, Nm.Sm x ∧ Nm.Sm y ∧ atS s1 e1 i = numS x ∧ atS s2 e2 i = numS y ∧ dyR op s1 e1 s2 e2 i = sd op (numS x) (numS y) := by
  obtain ⟨_, _, k3, k4, _⟩ := meet_ok g1 g2 hm
  obtain ⟨x, ex, hx⟩ := may_num (good_all g1 _ (atS_mem (k3 i hi).1 (k3 i hi).2))
  obtain ⟨y, ey, hy⟩ := may_num (good_all g2 _ (atS_mem (k4 i hi).1 (k4 i hi).2))
  exact ⟨x, y, hx, hy, ex, ey, by unfold dyR; rw [ex, ey]⟩
/-- what it comes to -/
theorem dyO_ok {op : ByteArray} {s1 s2 : List Int} {e1 e2 : List ByteArray} (g1 : good s1 e1 = true) (g2 : good s2 e2 = true) (ho : opsB op = true) (hm : (meetS s1 s2).2 = 0) (hz : ∀ i, i < dyN s1 s2 → (dyR op s1 e1 s2 e2 i).2 = 0) :
    dyO op s1 e1 s2 e2 = (((meetS s1 s2).1, (List.range (dyN s1 s2)).map fun i => (dyR op s1 e1 s2 e2 i).1), 0) := by
  unfold dyO
  rw [if_pos ⟨g1, g2, ho⟩, if_pos hm]
  rw [show (List.range (dyN s1 s2)).find? (fun i => decide ((dyR op s1 e1 s2 e2 i).2 ≠ 0)) = none from List.find?_eq_none.2 fun i hi => by simpa using hz i (List.mem_range.1 hi)]
theorem dyO_err (op : ByteArray) {s1 s2 : List Int} {e1 e2 : List ByteArray} (g1 : good s1 e1 = true) (g2 : good s2 e2 = true) (ho : opsB op = true) : (dyO op s1 e1 s2 e2).2 = 4 ↔ (meetS s1 s2).2 ≠ 0 := by
  unfold dyO
  rw [if_pos ⟨g1, g2, ho⟩]
  by_cases hm : (meetS s1 s2).2 = 0
  · rw [if_pos hm]
    refine ⟨fun h => ?_, fun h => absurd hm h⟩
    split at h
    · rename_i z hz
      obtain ⟨x, y, hx, hy, _, _, e⟩ := dyR_num op g1 g2 hm (List.mem_range.1 (List.mem_of_find?_eq_some hz))
      simp only [e] at h
      exact absurd h (sd_sound op hx hy).1
    · simp at h
  · rw [if_neg hm]
    refine ⟨fun _ => hm, fun _ => ?_⟩
    unfold meetS at hm ⊢
    split at hm
    · exact absurd rfl hm
    · rename_i h1
      split at hm
      · exact absurd rfl hm
      · rename_i h2; rw [if_neg h1, if_neg h2]
theorem apart_iff (s1 s2 : List Int) : (meetS s1 s2).2 ≠ 0 ↔ s1 ≠ [] ∧ s2 ≠ [] ∧ s1 ≠ s2 := by
  unfold meetS
  by_cases h1 : s1 = s2 <;> by_cases h2 : s2 = [] <;> by_cases h3 : s1 = [] <;> simp [h1, h2, h3]
/-! ### the example -/
theorem shown_dy : dyO ⟨#[43]⟩ [3] [⟨#[49]⟩, ⟨#[50]⟩, ⟨#[51]⟩] [] [⟨#[49, 48]⟩] = (([3], [⟨#[49, 49]⟩, ⟨#[49, 50]⟩, ⟨#[49, 51]⟩]), 0) := by
  have s : ∀ z : Int, -1000 ≤ z → z ≤ 1000 → Nm.Sm z := fun z h1 h2 => sm_i64 (by omega) (by omega)
  have t : ∀ z : Int, -1000 ≤ z → z ≤ 1000 → told z = (numS z, 0) := fun z h1 h2 => if_pos (s z h1 h2)
  have l1 : BA _ = numS (1 : Int) := litS 1 [49] (by decide) (by decide) (by decide) (by simp)
  have l2 : BA _ = numS (2 : Int) := litS 2 [50] (by decide) (by decide) (by decide) (by simp)
  have l3 : BA _ = numS (3 : Int) := litS 3 [51] (by decide) (by decide) (by decide) (by simp)
  have l10 : BA _ = numS (10 : Int) := litS 10 [49, 48] (by decide) (by decide) (by decide) (by simp)
  have l11 : BA _ = numS (11 : Int) := litS 11 [49, 49] (by decide) (by decide) (by decide) (by simp)
  have l12 : BA _ = numS (12 : Int) := litS 12 [49, 50] (by decide) (by decide) (by decide) (by simp)
  have l13 : BA _ = numS (13 : Int) := litS 13 [49, 51] (by decide) (by decide) (by decide) (by simp)
  have g1 : good [3] [⟨#[49]⟩, ⟨#[50]⟩, ⟨#[51]⟩] = true := by decide +kernel
  have g2 : good [] [⟨#[49, 48]⟩] = true := by decide +kernel
  have ho : opsB ⟨#[43]⟩ = true := by decide +kernel
  have hn : dyN [3] [] = 3 := by decide +kernel
  have hm : meetS [3] [] = ([3], 0) := by decide +kernel
  have r0 : dyR ⟨#[43]⟩ [3] [⟨#[49]⟩, ⟨#[50]⟩, ⟨#[51]⟩] [] [⟨#[49, 48]⟩] 0 = (⟨#[49, 49]⟩, 0) := by
    show sd _ (BA [49]) (BA [49, 48]) = (BA [49, 49], 0)
    rw [l1, l10, l11, sd_is (dAdd (s 1 (by decide) (by decide)) (s 10 (by decide) (by decide)))]
    exact t 11 (by decide) (by decide)
  have r1 : dyR ⟨#[43]⟩ [3] [⟨#[49]⟩, ⟨#[50]⟩, ⟨#[51]⟩] [] [⟨#[49, 48]⟩] 1 = (⟨#[49, 50]⟩, 0) := by
    show sd _ (BA [50]) (BA [49, 48]) = (BA [49, 50], 0)
    rw [l2, l10, l12, sd_is (dAdd (s 2 (by decide) (by decide)) (s 10 (by decide) (by decide)))]
    exact t 12 (by decide) (by decide)
  have r2 : dyR ⟨#[43]⟩ [3] [⟨#[49]⟩, ⟨#[50]⟩, ⟨#[51]⟩] [] [⟨#[49, 48]⟩] 2 = (⟨#[49, 51]⟩, 0) := by
    show sd _ (BA [51]) (BA [49, 48]) = (BA [49, 51], 0)
    rw [l3, l10, l13, sd_is (dAdd (s 3 (by decide) (by decide)) (s 10 (by decide) (by decide)))]
    exact t 13 (by decide) (by decide)
  rw [dyO_ok g1 g2 ho (by rw [hm]) (fun i hi => by
    rw [hn] at hi
    match i, hi with
    | 0, _ => rw [r0]
    | 1, _ => rw [r1]
    | 2, _ => rw [r2]), hm, hn]
  show (([3], [_, _, _]), 0) = _
  simp only [r0, r1, r2]
theorem shown_runs : Runs Tryz.prog 27 [] (bD true) := by
  have h1 := vector_runs [⟨#[49]⟩, ⟨#[50]⟩, ⟨#[51]⟩] none (by decide)
  have h2 := scalar_runs ⟨#[49, 48]⟩
  have h3 := dyad_runs ⟨#[43]⟩ [3] [⟨#[49]⟩, ⟨#[50]⟩, ⟨#[51]⟩] [] [⟨#[49, 48]⟩] none none none none (by decide) (by decide)
  rw [shown_dy] at h3
  have h4 := vector_runs [⟨#[49, 49]⟩, ⟨#[49, 50]⟩, ⟨#[49, 51]⟩] none (by decide)
  have h5 := vsame_runs [3] [⟨#[49, 49]⟩, ⟨#[49, 50]⟩, ⟨#[49, 51]⟩] [3] [⟨#[49, 49]⟩, ⟨#[49, 50]⟩, ⟨#[49, 51]⟩] none none none none (by decide) (by decide)
  rw [decide_eq_true ⟨rfl, rfl⟩] at h5
  have h6 := ops_runs ⟨#[43]⟩
  rw [show opsB ⟨#[43]⟩ = true by decide +kernel] at h6
  have h7 := ops_runs ⟨#[35]⟩
  rw [show opsB ⟨#[35]⟩ = false by decide +kernel] at h7
  refine Runs.wp hT hm Tryz.func27 rfl (by decide) [(2, .first 0 (.first 1 (.first 2 (.alt 3 (.alt 4 (.alt 5 (.alt 6 (.first 7 (.first 8 (.alt 9 (.first 10 (.first 11 (.alt 12 (.first 13 (.first 14 (.first 15 .done))) .nil))) .nil))) .nil) .nil) .nil) (.alt 4 (.alt 3 (.alt 5 (.alt 6 (.first 7 (.first 8 (.alt 9 (.first 10 (.first 11 (.alt 12 (.first 13 (.first 14 (.first 15 .done))) .nil))) .nil))) .nil) .nil) (.alt 5 (.alt 3 (.alt 6 (.first 7 (.first 8 (.alt 9 (.first 10 (.first 11 (.alt 12 (.first 13 (.first 14 (.first 15 .done))) .nil))) .nil))) .nil) .nil) .nil)) .nil)))))] ?_
  (repeat ((conv => whnf); first | refine Wo ?_ | refine Cl (by decide) ?_ | refine Cr (by decide) ?_ | refine ⟨_, rfl, ?_⟩))
  ((conv => whnf); (refine Hc.runs h1 ?_ ?_; (focus ((repeat ((conv => arg 1; whnf); first | exact Tels.nil | apply Tels.cons | apply Tel.aggs | apply Tel.tups | exact Tel.refl _ | exact Tel.nil1 _ | exact Tel.cap _ _ _ _)); done))); (repeat ((conv => whnf); first | refine Wo ?_ | refine Cl (by decide) ?_ | refine Cr (by decide) ?_ | refine ⟨_, rfl, ?_⟩)))
  ((conv => whnf); (refine Hc.runs h2 ?_ ?_; (focus ((repeat ((conv => arg 1; whnf); first | exact Tels.nil | apply Tels.cons | apply Tel.aggs | apply Tel.tups | exact Tel.refl _ | exact Tel.nil1 _ | exact Tel.cap _ _ _ _)); done))); (repeat ((conv => whnf); first | refine Wo ?_ | refine Cl (by decide) ?_ | refine Cr (by decide) ?_ | refine ⟨_, rfl, ?_⟩)))
  ((conv => whnf); (refine Hc.runs h3 ?_ ?_; (focus ((repeat ((conv => arg 1; whnf); first | exact Tels.nil | apply Tels.cons | apply Tel.aggs | apply Tel.tups | exact Tel.refl _ | exact Tel.nil1 _ | exact Tel.cap _ _ _ _)); done))); (repeat ((conv => whnf); first | refine Wo ?_ | refine Cl (by decide) ?_ | refine Cr (by decide) ?_ | refine ⟨_, rfl, ?_⟩)))
  refine ⟨by decide +kernel, { t := Am.pin [(0, .imm (.bool true))], N := 25, h := hpin [], n := 0, lo := 0 }, ?_, ?_⟩
  · repeat' ((conv => whnf); first | exact trivial | refine Wo ?_ | refine Cl (by decide) ?_ | refine Cr (by decide) ?_ | refine ⟨_, rfl, ?_⟩ | (first | (refine Hc.runs h4 ?_ ?_; (focus ((repeat ((conv => arg 1; whnf); first | exact Tels.nil | apply Tels.cons | apply Tel.aggs | apply Tel.tups | exact Tel.refl _ | exact Tel.nil1 _ | exact Tel.cap _ _ _ _)); done))) | (refine Hc.flat h5 ?_ rfl ?_; (focus ((repeat ((conv => arg 1; whnf); first | exact Tels.nil | apply Tels.cons | apply Tel.aggs | apply Tel.tups | exact Tel.refl _ | exact Tel.nil1 _ | exact Tel.cap _ _ _ _)); done))) | (refine Hc.flat h6 ?_ rfl ?_; (focus ((repeat ((conv => arg 1; whnf); first | exact Tels.nil | apply Tels.cons | apply Tel.aggs | apply Tel.tups | exact Tel.refl _ | exact Tel.nil1 _ | exact Tel.cap _ _ _ _)); done))) | (refine Hc.flat h7 ?_ rfl ?_; (focus ((repeat ((conv => arg 1; whnf); first | exact Tels.nil | apply Tels.cons | apply Tel.aggs | apply Tel.tups | exact Tel.refl _ | exact Tel.nil1 _ | exact Tel.cap _ _ _ _)); done)))) | (refine And.intro ?_ ?_))
    all_goals
      refine Wk.pin [] _ _ ?_ ?_ rfl rfl (by decide) rfl rfl
      · exact ⟨rfl, trivial⟩
      · exact trivial
  · (repeat ((conv => whnf); first | refine Wo ?_ | refine Cl (by decide) ?_ | refine Cr (by decide) ?_ | refine ⟨_, rfl, ?_⟩))
    ((conv => whnf); ((repeat ((conv => arg 1; whnf); first | exact Tels.nil | apply Tels.cons | apply Tel.aggs | apply Tel.tups | exact Tel.refl _ | exact Tel.nil1 _ | exact Tel.cap _ _ _ _)); done))
end Go.Proofs.YtcpaajecppplhaaGreatDoor.Am
end
section
namespace Go.Proofs.YtcpaajecppplhaaGreatDoor.Am
open Go Go.RowKit Go.Proofs.YtcpaajecppplhaaGreatDoorW.PrintWords Go.Proofs.YtcpaajecppplhaaGreatDoorW.PrintLast Go.Proofs.YtcpaajecppplhaaGreatDoor Go.Proofs.YtcpaajecppplhaaGreatDoor.Nm Go.Proofs.YtcpaajecppplhaaGreatDoor.Sh Go.Proofs.YtcpaajecppplhaaGreatDoor.Tx
set_option linter.unusedVariables false
set_option linter.unusedSimpArgs false
set_option maxRecDepth 100000
set_option maxHeartbeats 8000000
theorem none_dy {op : ByteArray} (ho : opsB op = true) : dyO op [0] [] [] [⟨#[48]⟩] = (([0], []), 0) := by
  have g1 : good [0] [] = true := by decide +kernel
  have g2 : good [] [⟨#[48]⟩] = true := by decide +kernel
  have hn : dyN [0] [] = 0 := by decide +kernel
  have hm : meetS [0] [] = ([0], 0) := by decide +kernel
  rw [dyO_ok g1 g2 ho (by rw [hm]) (fun i hi => by rw [hn] at hi; omega), hm, hn]
  rfl
section
variable {op : ByteArray} {s1 s2 : List Int} {e1 e2 : List ByteArray} {c1 d1 c2 d2 : Option Nat}
theorem nothing_no1 (f1 : Runs Tryz.prog 19 [vD s1 e1 c1 d1] (bD false)) : Runs Tryz.prog 7 [sD op, vD s1 e1 c1 d1, vD s2 e2 c2 d2] (bD true) := by
  refine Runs.wp hT hm Tryz.func7 rfl (by decide) [] ?_; (repeat ((conv => whnf); first | refine Wo ?_ | refine Cl (by decide) ?_ | refine Cr (by decide) ?_ | refine ⟨_, rfl, ?_⟩)); ((conv => whnf); (refine Hc.flat shown_runs ?_ rfl ?_; (focus ((repeat ((conv => arg 1; whnf); first | exact Tels.nil | apply Tels.cons | apply Tel.aggs | apply Tel.tups | exact Tel.refl _ | exact Tel.nil1 _ | exact Tel.cap _ _ _ _)); done))); (repeat ((conv => whnf); first | refine Wo ?_ | refine Cl (by decide) ?_ | refine Cr (by decide) ?_ | refine ⟨_, rfl, ?_⟩))); ((conv => whnf); (refine Hc.flat f1 ?_ rfl ?_; (focus ((repeat ((conv => arg 1; whnf); first | exact Tels.nil | apply Tels.cons | apply Tel.aggs | apply Tel.tups | exact Tel.refl _ | exact Tel.nil1 _ | exact Tel.cap _ _ _ _)); done))); (repeat ((conv => whnf); first | refine Wo ?_ | refine Cl (by decide) ?_ | refine Cr (by decide) ?_ | refine ⟨_, rfl, ?_⟩))); ((conv => whnf); ((repeat ((conv => arg 1; whnf); first | exact Tels.nil | apply Tels.cons | apply Tel.aggs | apply Tel.tups | exact Tel.refl _ | exact Tel.nil1 _ | exact Tel.cap _ _ _ _)); done))
theorem nothing_no2 (f1 : Runs Tryz.prog 19 [vD s1 e1 c1 d1] (bD true)) (f2 : Runs Tryz.prog 19 [vD s2 e2 c2 d2] (bD false)) : Runs Tryz.prog 7 [sD op, vD s1 e1 c1 d1, vD s2 e2 c2 d2] (bD true) := by
  refine Runs.wp hT hm Tryz.func7 rfl (by decide) [] ?_; (repeat ((conv => whnf); first | refine Wo ?_ | refine Cl (by decide) ?_ | refine Cr (by decide) ?_ | refine ⟨_, rfl, ?_⟩)); ((conv => whnf); (refine Hc.flat shown_runs ?_ rfl ?_; (focus ((repeat ((conv => arg 1; whnf); first | exact Tels.nil | apply Tels.cons | apply Tel.aggs | apply Tel.tups | exact Tel.refl _ | exact Tel.nil1 _ | exact Tel.cap _ _ _ _)); done))); (repeat ((conv => whnf); first | refine Wo ?_ | refine Cl (by decide) ?_ | refine Cr (by decide) ?_ | refine ⟨_, rfl, ?_⟩))); ((conv => whnf); (refine Hc.flat f1 ?_ rfl ?_; (focus ((repeat ((conv => arg 1; whnf); first | exact Tels.nil | apply Tels.cons | apply Tel.aggs | apply Tel.tups | exact Tel.refl _ | exact Tel.nil1 _ | exact Tel.cap _ _ _ _)); done))); (repeat ((conv => whnf); first | refine Wo ?_ | refine Cl (by decide) ?_ | refine Cr (by decide) ?_ | refine ⟨_, rfl, ?_⟩))); ((conv => whnf); (refine Hc.flat f2 ?_ rfl ?_; (focus ((repeat ((conv => arg 1; whnf); first | exact Tels.nil | apply Tels.cons | apply Tel.aggs | apply Tel.tups | exact Tel.refl _ | exact Tel.nil1 _ | exact Tel.cap _ _ _ _)); done))); (repeat ((conv => whnf); first | refine Wo ?_ | refine Cl (by decide) ?_ | refine Cr (by decide) ?_ | refine ⟨_, rfl, ?_⟩))); ((conv => whnf); ((repeat ((conv => arg 1; whnf); first | exact Tels.nil | apply Tels.cons | apply Tel.aggs | apply Tel.tups | exact Tel.refl _ | exact Tel.nil1 _ | exact Tel.cap _ _ _ _)); done))
theorem nothing_no3 (f1 : Runs Tryz.prog 19 [vD s1 e1 c1 d1] (bD true)) (f2 : Runs Tryz.prog 19 [vD s2 e2 c2 d2] (bD true)) (f3 : Runs Tryz.prog 25 [vD s1 e1 c1 d1] (bD false)) : Runs Tryz.prog 7 [sD op, vD s1 e1 c1 d1, vD s2 e2 c2 d2] (bD true) := by
  refine Runs.wp hT hm Tryz.func7 rfl (by decide) [] ?_; (repeat ((conv => whnf); first | refine Wo ?_ | refine Cl (by decide) ?_ | refine Cr (by decide) ?_ | refine ⟨_, rfl, ?_⟩)); ((conv => whnf); (refine Hc.flat shown_runs ?_ rfl ?_; (focus ((repeat ((conv => arg 1; whnf); first | exact Tels.nil | apply Tels.cons | apply Tel.aggs | apply Tel.tups | exact Tel.refl _ | exact Tel.nil1 _ | exact Tel.cap _ _ _ _)); done))); (repeat ((conv => whnf); first | refine Wo ?_ | refine Cl (by decide) ?_ | refine Cr (by decide) ?_ | refine ⟨_, rfl, ?_⟩))); ((conv => whnf); (refine Hc.flat f1 ?_ rfl ?_; (focus ((repeat ((conv => arg 1; whnf); first | exact Tels.nil | apply Tels.cons | apply Tel.aggs | apply Tel.tups | exact Tel.refl _ | exact Tel.nil1 _ | exact Tel.cap _ _ _ _)); done))); (repeat ((conv => whnf); first | refine Wo ?_ | refine Cl (by decide) ?_ | refine Cr (by decide) ?_ | refine ⟨_, rfl, ?_⟩))); ((conv => whnf); (refine Hc.flat f2 ?_ rfl ?_; (focus ((repeat ((conv => arg 1; whnf); first | exact Tels.nil | apply Tels.cons | apply Tel.aggs | apply Tel.tups | exact Tel.refl _ | exact Tel.nil1 _ | exact Tel.cap _ _ _ _)); done))); (repeat ((conv => whnf); first | refine Wo ?_ | refine Cl (by decide) ?_ | refine Cr (by decide) ?_ | refine ⟨_, rfl, ?_⟩))); ((conv => whnf); (refine Hc.flat f3 ?_ rfl ?_; (focus ((repeat ((conv => arg 1; whnf); first | exact Tels.nil | apply Tels.cons | apply Tel.aggs | apply Tel.tups | exact Tel.refl _ | exact Tel.nil1 _ | exact Tel.cap _ _ _ _)); done))); (repeat ((conv => whnf); first | refine Wo ?_ | refine Cl (by decide) ?_ | refine Cr (by decide) ?_ | refine ⟨_, rfl, ?_⟩))); ((conv => whnf); ((repeat ((conv => arg 1; whnf); first | exact Tels.nil | apply Tels.cons | apply Tel.aggs | apply Tel.tups | exact Tel.refl _ | exact Tel.nil1 _ | exact Tel.cap _ _ _ _)); done))
theorem nothing_no4 (f1 : Runs Tryz.prog 19 [vD s1 e1 c1 d1] (bD true)) (f2 : Runs Tryz.prog 19 [vD s2 e2 c2 d2] (bD true)) (f3 : Runs Tryz.prog 25 [vD s1 e1 c1 d1] (bD true)) (f4 : Runs Tryz.prog 25 [vD s2 e2 c2 d2] (bD false)) : Runs Tryz.prog 7 [sD op, vD s1 e1 c1 d1, vD s2 e2 c2 d2] (bD true) := by
  refine Runs.wp hT hm Tryz.func7 rfl (by decide) [] ?_; (repeat ((conv => whnf); first | refine Wo ?_ | refine Cl (by decide) ?_ | refine Cr (by decide) ?_ | refine ⟨_, rfl, ?_⟩)); ((conv => whnf); (refine Hc.flat shown_runs ?_ rfl ?_; (focus ((repeat ((conv => arg 1; whnf); first | exact Tels.nil | apply Tels.cons | apply Tel.aggs | apply Tel.tups | exact Tel.refl _ | exact Tel.nil1 _ | exact Tel.cap _ _ _ _)); done))); (repeat ((conv => whnf); first | refine Wo ?_ | refine Cl (by decide) ?_ | refine Cr (by decide) ?_ | refine ⟨_, rfl, ?_⟩))); ((conv => whnf); (refine Hc.flat f1 ?_ rfl ?_; (focus ((repeat ((conv => arg 1; whnf); first | exact Tels.nil | apply Tels.cons | apply Tel.aggs | apply Tel.tups | exact Tel.refl _ | exact Tel.nil1 _ | exact Tel.cap _ _ _ _)); done))); (repeat ((conv => whnf); first | refine Wo ?_ | refine Cl (by decide) ?_ | refine Cr (by decide) ?_ | refine ⟨_, rfl, ?_⟩))); ((conv => whnf); (refine Hc.flat f2 ?_ rfl ?_; (focus ((repeat ((conv => arg 1; whnf); first | exact Tels.nil | apply Tels.cons | apply Tel.aggs | apply Tel.tups | exact Tel.refl _ | exact Tel.nil1 _ | exact Tel.cap _ _ _ _)); done))); (repeat ((conv => whnf); first | refine Wo ?_ | refine Cl (by decide) ?_ | refine Cr (by decide) ?_ | refine ⟨_, rfl, ?_⟩))); ((conv => whnf); (refine Hc.flat f3 ?_ rfl ?_; (focus ((repeat ((conv => arg 1; whnf); first | exact Tels.nil | apply Tels.cons | apply Tel.aggs | apply Tel.tups | exact Tel.refl _ | exact Tel.nil1 _ | exact Tel.cap _ _ _ _)); done))); (repeat ((conv => whnf); first | refine Wo ?_ | refine Cl (by decide) ?_ | refine Cr (by decide) ?_ | refine ⟨_, rfl, ?_⟩))); ((conv => whnf); (refine Hc.flat f4 ?_ rfl ?_; (focus ((repeat ((conv => arg 1; whnf); first | exact Tels.nil | apply Tels.cons | apply Tel.aggs | apply Tel.tups | exact Tel.refl _ | exact Tel.nil1 _ | exact Tel.cap _ _ _ _)); done))); (repeat ((conv => whnf); first | refine Wo ?_ | refine Cl (by decide) ?_ | refine Cr (by decide) ?_ | refine ⟨_, rfl, ?_⟩))); ((conv => whnf); ((repeat ((conv => arg 1; whnf); first | exact Tels.nil | apply Tels.cons | apply Tel.aggs | apply Tel.tups | exact Tel.refl _ | exact Tel.nil1 _ | exact Tel.cap _ _ _ _)); done))
theorem nothing_no5 (f1 : Runs Tryz.prog 19 [vD s1 e1 c1 d1] (bD true)) (f2 : Runs Tryz.prog 19 [vD s2 e2 c2 d2] (bD true)) (f3 : Runs Tryz.prog 25 [vD s1 e1 c1 d1] (bD true)) (f4 : Runs Tryz.prog 25 [vD s2 e2 c2 d2] (bD true)) (f5 : Runs Tryz.prog 28 [sD op] (bD false)) : Runs Tryz.prog 7 [sD op, vD s1 e1 c1 d1, vD s2 e2 c2 d2] (bD true) := by
  refine Runs.wp hT hm Tryz.func7 rfl (by decide) [] ?_; (repeat ((conv => whnf); first | refine Wo ?_ | refine Cl (by decide) ?_ | refine Cr (by decide) ?_ | refine ⟨_, rfl, ?_⟩)); ((conv => whnf); (refine Hc.flat shown_runs ?_ rfl ?_; (focus ((repeat ((conv => arg 1; whnf); first | exact Tels.nil | apply Tels.cons | apply Tel.aggs | apply Tel.tups | exact Tel.refl _ | exact Tel.nil1 _ | exact Tel.cap _ _ _ _)); done))); (repeat ((conv => whnf); first | refine Wo ?_ | refine Cl (by decide) ?_ | refine Cr (by decide) ?_ | refine ⟨_, rfl, ?_⟩))); ((conv => whnf); (refine Hc.flat f1 ?_ rfl ?_; (focus ((repeat ((conv => arg 1; whnf); first | exact Tels.nil | apply Tels.cons | apply Tel.aggs | apply Tel.tups | exact Tel.refl _ | exact Tel.nil1 _ | exact Tel.cap _ _ _ _)); done))); (repeat ((conv => whnf); first | refine Wo ?_ | refine Cl (by decide) ?_ | refine Cr (by decide) ?_ | refine ⟨_, rfl, ?_⟩))); ((conv => whnf); (refine Hc.flat f2 ?_ rfl ?_; (focus ((repeat ((conv => arg 1; whnf); first | exact Tels.nil | apply Tels.cons | apply Tel.aggs | apply Tel.tups | exact Tel.refl _ | exact Tel.nil1 _ | exact Tel.cap _ _ _ _)); done))); (repeat ((conv => whnf); first | refine Wo ?_ | refine Cl (by decide) ?_ | refine Cr (by decide) ?_ | refine ⟨_, rfl, ?_⟩))); ((conv => whnf); (refine Hc.flat f3 ?_ rfl ?_; (focus ((repeat ((conv => arg 1; whnf); first | exact Tels.nil | apply Tels.cons | apply Tel.aggs | apply Tel.tups | exact Tel.refl _ | exact Tel.nil1 _ | exact Tel.cap _ _ _ _)); done))); (repeat ((conv => whnf); first | refine Wo ?_ | refine Cl (by decide) ?_ | refine Cr (by decide) ?_ | refine ⟨_, rfl, ?_⟩))); ((conv => whnf); (refine Hc.flat f4 ?_ rfl ?_; (focus ((repeat ((conv => arg 1; whnf); first | exact Tels.nil | apply Tels.cons | apply Tel.aggs | apply Tel.tups | exact Tel.refl _ | exact Tel.nil1 _ | exact Tel.cap _ _ _ _)); done))); (repeat ((conv => whnf); first | refine Wo ?_ | refine Cl (by decide) ?_ | refine Cr (by decide) ?_ | refine ⟨_, rfl, ?_⟩))); ((conv => whnf); (refine Hc.flat f5 ?_ rfl ?_; (focus ((repeat ((conv => arg 1; whnf); first | exact Tels.nil | apply Tels.cons | apply Tel.aggs | apply Tel.tups | exact Tel.refl _ | exact Tel.nil1 _ | exact Tel.cap _ _ _ _)); done))); (repeat ((conv => whnf); first | refine Wo ?_ | refine Cl (by decide) ?_ | refine Cr (by decide) ?_ | refine ⟨_, rfl, ?_⟩))); ((conv => whnf); ((repeat ((conv => arg 1; whnf); first | exact Tels.nil | apply Tels.cons | apply Tel.aggs | apply Tel.tups | exact Tel.refl _ | exact Tel.nil1 _ | exact Tel.cap _ _ _ _)); done))
theorem nothing_yes {b : Bool} {q1 : List Int} {q2 : List ByteArray} {e : Int} (f1 : Runs Tryz.prog 19 [vD s1 e1 c1 d1] (bD true)) (f2 : Runs Tryz.prog 19 [vD s2 e2 c2 d2] (bD true)) (f3 : Runs Tryz.prog 25 [vD s1 e1 c1 d1] (bD true)) (f4 : Runs Tryz.prog 25 [vD s2 e2 c2 d2] (bD true)) (f5 : Runs Tryz.prog 28 [sD op] (bD true))
    (h2 : Runs Tryz.prog 29 [sD op, vD [0] [] none none, vD [] [⟨#[48]⟩] none none] (.tup [vD [0] [] none none, iD 0])) (h3 : Runs Tryz.prog 29 [sD op, vD s1 e1 c1 d1, vD s2 e2 c2 d2] (.tup [vD q1 q2 none none, iD e]))
    (h4 : Runs Tryz.prog 26 [vD [0] [] none none, vD [0] [] none none] (bD true)) (h5 : Runs Tryz.prog 26 [vD s1 [] c1 none, vD s2 [] c2 none] (bD b))
    (hs : decide ((s1.length : Int) > 0) = false ∧ (e == 4) = false ∨ decide ((s1.length : Int) > 0) = true ∧ decide ((s2.length : Int) > 0) = false ∧ (e == 4) = false ∨ decide ((s1.length : Int) > 0) = true ∧ decide ((s2.length : Int) > 0) = true ∧ (e == 4) = !b) :
    Runs Tryz.prog 7 [sD op, vD s1 e1 c1 d1, vD s2 e2 c2 d2] (bD true) := by
  have h1 := scalar_runs ⟨#[48]⟩
  refine Runs.wp hT hm Tryz.func7 rfl (by decide) [(5, .first 0 (.alt 1 (.alt 2 (.alt 3 (.first 4 (.first 5 (.first 6 (.alt 7 (.alt 8 (.first 9 .done) .nil) .nil)))) (.alt 7 (.alt 3 (.first 4 (.first 5 (.first 6 (.alt 8 (.first 9 .done) .nil)))) .nil) .nil)) (.alt 7 (.alt 2 (.alt 3 (.first 4 (.first 5 (.first 6 (.alt 8 (.first 9 .done) .nil)))) .nil) .nil) .nil)) (.alt 2 (.alt 1 (.alt 3 (.first 4 (.first 5 (.first 6 (.alt 7 (.alt 8 (.first 9 .done) .nil) .nil)))) (.alt 7 (.alt 3 (.first 4 (.first 5 (.first 6 (.alt 8 (.first 9 .done) .nil)))) .nil) .nil)) (.alt 7 (.alt 1 (.alt 3 (.first 4 (.first 5 (.first 6 (.alt 8 (.first 9 .done) .nil)))) .nil) .nil) .nil)) (.alt 7 (.alt 1 (.alt 2 (.alt 3 (.first 4 (.first 5 (.first 6 (.alt 8 (.first 9 .done) .nil)))) .nil) .nil) (.alt 2 (.alt 1 (.alt 3 (.first 4 (.first 5 (.first 6 (.alt 8 (.first 9 .done) .nil)))) .nil) .nil) .nil)) .nil))))] ?_
  (repeat ((conv => whnf); first | refine Wo ?_ | refine Cl (by decide) ?_ | refine Cr (by decide) ?_ | refine ⟨_, rfl, ?_⟩))
  ((conv => whnf); (refine Hc.flat shown_runs ?_ rfl ?_; (focus ((repeat ((conv => arg 1; whnf); first | exact Tels.nil | apply Tels.cons | apply Tel.aggs | apply Tel.tups | exact Tel.refl _ | exact Tel.nil1 _ | exact Tel.cap _ _ _ _)); done))); (repeat ((conv => whnf); first | refine Wo ?_ | refine Cl (by decide) ?_ | refine Cr (by decide) ?_ | refine ⟨_, rfl, ?_⟩)))
  ((conv => whnf); (refine Hc.flat f1 ?_ rfl ?_; (focus ((repeat ((conv => arg 1; whnf); first | exact Tels.nil | apply Tels.cons | apply Tel.aggs | apply Tel.tups | exact Tel.refl _ | exact Tel.nil1 _ | exact Tel.cap _ _ _ _)); done))); (repeat ((conv => whnf); first | refine Wo ?_ | refine Cl (by decide) ?_ | refine Cr (by decide) ?_ | refine ⟨_, rfl, ?_⟩))); ((conv => whnf); (refine Hc.flat f2 ?_ rfl ?_; (focus ((repeat ((conv => arg 1; whnf); first | exact Tels.nil | apply Tels.cons | apply Tel.aggs | apply Tel.tups | exact Tel.refl _ | exact Tel.nil1 _ | exact Tel.cap _ _ _ _)); done))); (repeat ((conv => whnf); first | refine Wo ?_ | refine Cl (by decide) ?_ | refine Cr (by decide) ?_ | refine ⟨_, rfl, ?_⟩))); ((conv => whnf); (refine Hc.flat f3 ?_ rfl ?_; (focus ((repeat ((conv => arg 1; whnf); first | exact Tels.nil | apply Tels.cons | apply Tel.aggs | apply Tel.tups | exact Tel.refl _ | exact Tel.nil1 _ | exact Tel.cap _ _ _ _)); done))); (repeat ((conv => whnf); first | refine Wo ?_ | refine Cl (by decide) ?_ | refine Cr (by decide) ?_ | refine ⟨_, rfl, ?_⟩))); ((conv => whnf); (refine Hc.flat f4 ?_ rfl ?_; (focus ((repeat ((conv => arg 1; whnf); first | exact Tels.nil | apply Tels.cons | apply Tel.aggs | apply Tel.tups | exact Tel.refl _ | exact Tel.nil1 _ | exact Tel.cap _ _ _ _)); done))); (repeat ((conv => whnf); first | refine Wo ?_ | refine Cl (by decide) ?_ | refine Cr (by decide) ?_ | refine ⟨_, rfl, ?_⟩))); ((conv => whnf); (refine Hc.flat f5 ?_ rfl ?_; (focus ((repeat ((conv => arg 1; whnf); first | exact Tels.nil | apply Tels.cons | apply Tel.aggs | apply Tel.tups | exact Tel.refl _ | exact Tel.nil1 _ | exact Tel.cap _ _ _ _)); done))); (repeat ((conv => whnf); first | refine Cl (by decide) ?_ | refine Cr (by decide) ?_ | refine ⟨_, rfl, ?_⟩)))
  refine ⟨{ t := Am.pin [(0, .d (sD op)), (4, .pt 0 0), (5, .pt 1 0), (7, .imm (.bool true)), (37, .imm (.bool false))], N := 91, h := hpin [some (.st 25 [.d (rI s1 c1), .d (rS e1 d1)]), some (.st 25 [.d (rI s2 c2), .d (rS e2 d2)])], n := 2, lo := 0 }, ?_, ?_⟩
  · refine Wk.pin [0, 1] _ _ ?_ ?_ rfl rfl (by decide) rfl rfl
    · exact ⟨rfl, rfl, rfl, rfl, rfl, trivial⟩
    · exact ⟨⟨rfl, rfl⟩, ⟨rfl, rfl⟩, trivial⟩
  (repeat ((conv => whnf); first | refine Wo ?_ | refine Cl (by decide) ?_ | refine Cr (by decide) ?_ | refine ⟨_, rfl, ?_⟩))
  refine ⟨by decide +kernel, { t := Am.pin [(0, .d (sD op)), (4, .pt 0 0), (5, .pt 1 0), (7, .imm (.bool true)), (8, .pt 3 0), (9, .pt 4 0), (10, .imm (.int .i64 0))], N := 91, h := hpin [some (.st 25 [.d (rI s1 c1), .d (rS e1 d1)]), some (.st 25 [.d (rI s2 c2), .d (rS e2 d2)]), some (.fz 1 1 [iD 0]), some (.st 25 [.bs 2, .imm (.slice none 0 0)]), some (.st 25 [.d (rI [0] none), .d (rS [] none)])], n := 5, lo := 0 }, ?_, ?_⟩
  · repeat' ((conv => whnf); first | exact trivial | refine Wo ?_ | refine Cl (by decide) ?_ | refine Cr (by decide) ?_ | refine ⟨_, rfl, ?_⟩ | (first | (refine Hc.runs h1 ?_ ?_; (focus ((repeat ((conv => arg 1; whnf); first | exact Tels.nil | apply Tels.cons | apply Tel.aggs | apply Tel.tups | exact Tel.refl _ | exact Tel.nil1 _ | exact Tel.cap _ _ _ _)); done))) | (refine Hc.runs h2 ?_ ?_; (focus ((repeat ((conv => arg 1; whnf); first | exact Tels.nil | apply Tels.cons | apply Tel.aggs | apply Tel.tups | exact Tel.refl _ | exact Tel.nil1 _ | exact Tel.cap _ _ _ _)); done)))) | (refine And.intro ?_ ?_))
    all_goals
      refine Wk.pin [0, 1, 2, 3, 4] _ _ ?_ ?_ rfl rfl (by decide) rfl rfl
      · exact ⟨rfl, rfl, rfl, rfl, rfl, rfl, rfl, trivial⟩
      · exact ⟨⟨rfl, rfl⟩, ⟨rfl, rfl⟩, ⟨rfl, rfl⟩, ⟨rfl, rfl⟩, ⟨rfl, rfl⟩, trivial⟩
  · (repeat ((conv => whnf); first | refine Wo ?_ | refine Cl (by decide) ?_ | refine Cr (by decide) ?_ | refine ⟨_, rfl, ?_⟩))
    ((conv => whnf); (refine Hc.runs h3 ?_ ?_; (focus ((repeat ((conv => arg 1; whnf); first | exact Tels.nil | apply Tels.cons | apply Tel.aggs | apply Tel.tups | exact Tel.refl _ | exact Tel.nil1 _ | exact Tel.cap _ _ _ _)); done))); (repeat ((conv => whnf); first | refine Wo ?_ | refine Cl (by decide) ?_ | refine Cr (by decide) ?_ | refine ⟨_, rfl, ?_⟩)))
    rcases hs with ⟨a1, a3⟩ | ⟨a1, a2, a3⟩ | ⟨a1, a2, a3⟩
    · repeat' ((conv => whnf); first | exact trivial | refine Wo ?_ | refine Cl (by decide) ?_ | refine Cr (by decide) ?_ | refine ⟨_, rfl, ?_⟩ | (first | (refine Hc.flat h4 ?_ rfl ?_; (focus ((repeat ((conv => arg 1; whnf); first | exact Tels.nil | apply Tels.cons | apply Tel.aggs | apply Tel.tups | exact Tel.refl _ | exact Tel.nil1 _ | exact Tel.cap _ _ _ _)); done))) | (refine Hc.flat h5 ?_ rfl ?_; (focus ((repeat ((conv => arg 1; whnf); first | exact Tels.nil | apply Tels.cons | apply Tel.aggs | apply Tel.tups | exact Tel.refl _ | exact Tel.nil1 _ | exact Tel.cap _ _ _ _)); done))) | (refine ⟨fun hb => absurd (hb.symm.trans a1) (by decide), fun _ => ?_⟩)) | (refine And.intro ?_ ?_))
      ((conv => whnf); (conv => arg 1; whnf); refine Tel.bool ?_; show ((e == 4) == false) = _)
      rw [a3]
      rfl
    · repeat' ((conv => whnf); first | exact trivial | refine Wo ?_ | refine Cl (by decide) ?_ | refine Cr (by decide) ?_ | refine ⟨_, rfl, ?_⟩ | (first | (refine Hc.flat h4 ?_ rfl ?_; (focus ((repeat ((conv => arg 1; whnf); first | exact Tels.nil | apply Tels.cons | apply Tel.aggs | apply Tel.tups | exact Tel.refl _ | exact Tel.nil1 _ | exact Tel.cap _ _ _ _)); done))) | (refine Hc.flat h5 ?_ rfl ?_; (focus ((repeat ((conv => arg 1; whnf); first | exact Tels.nil | apply Tels.cons | apply Tel.aggs | apply Tel.tups | exact Tel.refl _ | exact Tel.nil1 _ | exact Tel.cap _ _ _ _)); done))) | (refine ⟨fun hb => absurd (hb.symm.trans a2) (by decide), fun _ => ?_⟩) | (refine ⟨fun _ => ?_, fun hb => absurd a1 hb⟩) | (refine ⟨fun _ => ?_, fun hb => absurd (hb.symm.trans a1) (by decide)⟩)) | (refine And.intro ?_ ?_))
      ((conv => whnf); (conv => arg 1; whnf); refine Tel.bool ?_; show ((e == 4) == false) = _)
      rw [a3]
      rfl
    · repeat' ((conv => whnf); first | exact trivial | refine Wo ?_ | refine Cl (by decide) ?_ | refine Cr (by decide) ?_ | refine ⟨_, rfl, ?_⟩ | (first | (refine Hc.flat h4 ?_ rfl ?_; (focus ((repeat ((conv => arg 1; whnf); first | exact Tels.nil | apply Tels.cons | apply Tel.aggs | apply Tel.tups | exact Tel.refl _ | exact Tel.nil1 _ | exact Tel.cap _ _ _ _)); done))) | (refine Hc.flat h5 ?_ rfl ?_; (focus ((repeat ((conv => arg 1; whnf); first | exact Tels.nil | apply Tels.cons | apply Tel.aggs | apply Tel.tups | exact Tel.refl _ | exact Tel.nil1 _ | exact Tel.cap _ _ _ _)); done))) | (refine ⟨fun _ => ?_, fun hb => absurd a1 hb⟩) | (refine ⟨fun _ => ?_, fun hb => absurd a2 hb⟩) | (refine ⟨fun _ => ?_, fun hb => absurd (hb.symm.trans a1) (by decide)⟩) | (refine ⟨fun _ => ?_, fun hb => absurd (hb.symm.trans a2) (by decide)⟩)) | (refine And.intro ?_ ?_))
      ((conv => whnf); (conv => arg 1; whnf); refine Tel.bool ?_; show ((e == 4) == !b) = _)
      rw [a3]
      simp
end
end Go.Proofs.YtcpaajecppplhaaGreatDoor.Am
end
section
namespace Go.Proofs.YtcpaajecppplhaaGreatDoor.Am
open Go Go.RowKit Go.Proofs.YtcpaajecppplhaaGreatDoorW.PrintWords Go.Proofs.YtcpaajecppplhaaGreatDoorW.PrintLast Go.Proofs.YtcpaajecppplhaaGreatDoor Go.Proofs.YtcpaajecppplhaaGreatDoor.Nm Go.Proofs.YtcpaajecppplhaaGreatDoor.Sh Go.Proofs.YtcpaajecppplhaaGreatDoor.Tx
set_option linter.unusedVariables false
set_option linter.unusedSimpArgs false
theorem SpreadNothing_runs (op : ByteArray) (s1 : List Int) (e1 : List ByteArray) (s2 : List Int) (e2 : List ByteArray) (c1 d1 c2 d2 : Option Nat) (l1 : s1.length ≤ 9223372036854775807) (l2 : s2.length ≤ 9223372036854775807) :
    Runs Tryz.prog 7 [sD op, vD s1 e1 c1 d1, vD s2 e2 c2 d2] (bD true) := by
  obtain ⟨b1, q1, f1⟩ := few_runs s1 e1 c1 d1
  obtain ⟨b2, q2, f2⟩ := few_runs s2 e2 c2 d2
  have m1 := may_runs s1 e1 c1 d1 l1
  have m2 := may_runs s2 e2 c2 d2 l2
  have o := ops_runs op
  cases b1 with
  | false => exact nothing_no1 f1
  | true =>
  cases b2 with
  | false => exact nothing_no2 f1 f2
  | true =>
  cases g1 : good s1 e1 with
  | false => rw [g1] at m1; exact nothing_no3 f1 f2 m1
  | true =>
  rw [g1] at m1
  cases g2 : good s2 e2 with
  | false => rw [g2] at m2; exact nothing_no4 f1 f2 m1 m2
  | true =>
  rw [g2] at m2
  cases ho : opsB op with
  | false => rw [ho] at o; exact nothing_no5 f1 f2 m1 m2 o
  | true =>
  rw [ho] at o
  obtain ⟨t1, _, _⟩ := q1 rfl
  obtain ⟨u1, _, _⟩ := q2 rfl
  have h2 := dyad_runs op [0] [] [] [⟨#[48]⟩] none none none none (by decide) (by decide)
  rw [none_dy ho] at h2
  have h4 := vsame_runs [0] [] [0] [] none none none none (by decide) (by decide)
  rw [decide_eq_true ⟨rfl, rfl⟩] at h4
  refine nothing_yes f1 f2 m1 m2 o h2 (dyad_runs op s1 e1 s2 e2 c1 d1 c2 d2 (by omega) (by omega)) h4 (vsame_runs s1 [] s2 [] c1 none c2 none (by omega) (by decide)) ?_
  have he := (dyO_err op g1 g2 ho).trans (apart_iff s1 s2)
  have ne : ∀ {x : Int}, ¬ x = 4 → (x == 4) = false := fun h => by simpa using h
  by_cases hs1 : s1 = []
  · exact .inl ⟨by simp [hs1], ne fun h => (he.1 h).1 hs1⟩
  · have p1 : 0 < s1.length := List.length_pos_iff.2 hs1
    by_cases hs2 : s2 = []
    · exact .inr (.inl ⟨decide_eq_true (by omega), by simp [hs2], ne fun h => (he.1 h).2.1 hs2⟩)
    · have p2 : 0 < s2.length := List.length_pos_iff.2 hs2
      refine .inr (.inr ⟨decide_eq_true (by omega), decide_eq_true (by omega), ?_⟩)
      by_cases h : s1 = s2
      · rw [decide_eq_true ⟨h, rfl⟩]
        exact ne fun h' => (he.1 h').2.2 h
      · rw [decide_eq_false (fun h' => h h'.1)]
        simpa using he.2 ⟨hs1, hs2, h⟩
end Go.Proofs.YtcpaajecppplhaaGreatDoor.Am
end
