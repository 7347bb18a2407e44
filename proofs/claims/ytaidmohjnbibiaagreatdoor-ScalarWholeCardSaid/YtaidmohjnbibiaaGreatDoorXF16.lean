/- What the law leans on, part 17: declarations of several texts of ours, in their order. -/
import Derived.Test.YtaidmohjnbibiaaGreatDoorXF4
import Derived.Test.YtaidmohjnbibiaaGreatDoorXF7
import Derived.Lib.AppendIntMem
import Derived.Lib.OthersKept
import Derived.Shelf.Strings.BuilderK
import Derived.Test.YtaidmohjnbibiaaGreatDoorXF11
import Derived.Test.YtaidmohjnbibiaaGreatDoorXF9
import Derived.RangeFuncNested
import Derived.RangeFuncBound
import Derived.RangeFuncCalls
import Derived.RangeFuncLeaves
import Derived.Shelf.Abstract
import Derived.Shelf.RegionOpen
import Derived.OwnWalkIn
import Derived.TacticsInMore
import Derived.LoopNIn
import Derived.LoopIn
section
/- strconv.FormatUint at base 10, and strings.Builder's copyCheck and WriteString: what they tell. -/
namespace Go.Proofs.YtaidmohjnbibiaaGreatDoor.Hd
open Go.RowKit Go.Proofs.YtaidmohjnbibiaaGreatDoorW.PrintWords Go.Proofs.YtaidmohjnbibiaaGreatDoorW.PrintLast Go.Proofs.YtaidmohjnbibiaaGreatDoorW.PrintMore Go.Proofs.YtaidmohjnbibiaaGreatDoor.B Go.Lib Go.Sort
set_option linter.unusedVariables false
set_option linter.unusedSimpArgs false
set_option maxHeartbeats 6400000 in
set_option maxRecDepth 100000 in
theorem fmtU_in (u : Nat) (hu64 : u < 18446744073709551616) (w : World) (hG : GL w) :
    Calls Tryz.prog 116 #[.int .u64 u, .int .i64 10] w fun e w' => e = .returned (.string ⟨(decDigits u).toArray⟩) ∧ Below w.heap.size w w' := by
  have htab := hG.1
  by_cases hs : u < 100
  · have hw : IntKind.i64.wrap (u : Int) = (u : Int) := by rw [IntKind.wrap_i64]; omega
    go_enter Tryz.func116, Tryz.ntmps116
    go_wp2_with (go_at_call 121; refine (Tryz.internal_strconv_small u hs _).mono ?_; rintro e w' ⟨rfl, rfl⟩)
    go_ret
    exact ⟨rfl, Below.refl _ _⟩
  · have hu1 : 1 ≤ u := by omega
    have hnd20 : nDigits u ≤ 20 := by have := numDigits_eq u hu1 hu64; split at this <;> omega
    have hb3 : nDigits u ≤ 24 := by omega
    have hal : Tryz.prog.arrayLen 108 = 24 := by simp [Program.arrayLen, Tryz.underlying108]
    have hsl1 : ∀ W, (Instr.sliceAt 108 (.pointer (some ⟨w.heap.size, 0, none⟩)) none (some (.int .i64 (nDigits u : Int))) none).run Tryz.prog W = .ok (.slice (some ⟨w.heap.size, 0, none⟩) (nDigits u) 24) W := fun W => by
      rw [run_sliceAt_array_h W 108 ⟨w.heap.size, 0, none⟩ (by simp [Program.arrayLen, Program.elem, Tryz.underlying108]) .i64 (nDigits u : Int) (by omega) (by rw [hal]; omega)]
      go_simp
    have hH0 := holds_zero0 w 108 (nDigits u) (by omega)
    have hfmt := Tryz.internal_strconv_formatBase10 w.heap.size 0 24 u (Array.replicate (nDigits u) 0) (w.alloc (.cells zeros24 108)) hH0 (by rw [Array.size_replicate]; exact lt_pow_nDigits u) hu64 (by rw [Array.size_replicate]; omega)
    rw [Array.size_replicate] at hfmt
    have HH0 := hid hH0
    clear hH0 hal
    have hlt : ¬ ((u : Int) < 100) := by omega
    go_enter Tryz.func116, Tryz.ntmps116
    go_wp2_with (first
      | (go_at_call 122; refine (Tryz.internal_strconv_numDigits u hu1 hu64 _ (tabIs_alloc htab _)).mono ?_; rintro e w' ⟨rfl, rfl⟩))
    go_at_call 123
    refine hfmt.mono ?_
    rintro e w' ⟨rfl, k, v', dk, rfl, hF⟩
    have hcv := run_convert_bytes_back (P := Tryz.prog) ((putRow (fun (b : UInt8) => Value.int .u8 (b.toNat : Int)) (w.alloc (.cells zeros24 108)) w.heap.size 0 dk).drewN k) 69 9 5 ⟨w.heap.size, 0, none⟩ 24 (decDigits u) Tryz.underlying69 Tryz.underlying5 Tryz.underlying9 (fun j hj => by
      rw [Go.Lib.add_plain, row_is_numeral hF j hj, World.cell?_drewN]
      exact cell?_putRow (fun (b : UInt8) => Value.int .u8 (b.toNat : Int)) _ w.heap.size 0 _ dk HH0.out (by rw [hF.size, Array.size_replicate]) j (by rw [hF.size]; rw [decDigits_length] at hj; exact hj))
    rw [decDigits_length] at hcv
    go_wp2
    go_ret
    obtain ⟨os, eo⟩ := fin_at w (.cells zeros24 108) dk k 0
    exact ⟨rfl, by rw [eo]; exact below_grown w k os⟩
theorem fmtU (u : Nat) (hu64 : u < 18446744073709551616) (w : World) (hG : GL w) :
    Calls Tryz.prog 92 #[.int .u64 u, .int .i64 10] w fun e w' => e = .returned (.string ⟨(decDigits u).toArray⟩) ∧ Below w.heap.size w w' := by
  go_enter Tryz.func92, Tryz.ntmps92
  go_wp2_with (go_at_call 116; refine (fmtU_in u hu64 _ hG).mono ?_; rintro e w' ⟨rfl, hb⟩)
  go_ret
  exact ⟨rfl, hb⟩
/-! ### strings.Builder: this translation's copyCheck ends otherwise than the shelf's -/
theorem sizeB : (Tryz.prog.info? 83).map (·.size) = some 2 := by kernel_rfl
theorem liesB : liesAt Tryz.prog Tryz.prog.depth 83 (2 / Tryz.prog.cellsOf 83) 0 83 1 = true := by kernel_rfl
set_option maxHeartbeats 1000000 in
set_option maxRecDepth 100000 in
theorem copyCheck_used (b : Nat) (w : World) (h0 : w.cell? ⟨b, 0, none⟩ = some (.pointer (some ⟨b, 0, none⟩))) :
    Calls Tryz.prog 115 #[.pointer (some ⟨b, 0, none⟩)] w fun e w' => e = .returned (.tuple #[]) ∧ w' = w := by
  obtain ⟨j, hj, _⟩ := Option.map_eq_some_iff.1 sizeB
  go_enter Tryz.func115, Tryz.ntmps115
  go_wp2
  rw [Lib.run_neq_ptr_same w _ Tryz.underlying81 hj]
  go_wp2
  go_end0
  exact ⟨rfl, rfl⟩
set_option maxHeartbeats 1000000 in
set_option maxRecDepth 100000 in
theorem copyCheck_fresh (b : Nat) (w : World) (h0 : w.cell? ⟨b, 0, none⟩ = some (.pointer none)) (hsh : w.shape? b = some (83, 2)) (hfz : w.frozen? ⟨b, 0, none⟩ = false) :
    Calls Tryz.prog 115 #[.pointer (some ⟨b, 0, none⟩)] w fun e w' => e = .returned (.tuple #[]) ∧ w' = w.setCell ⟨b, 0, none⟩ (.pointer (some ⟨b, 0, none⟩)) := by
  obtain ⟨j, hj, hjs⟩ := Option.map_eq_some_iff.1 sizeB
  go_enter Tryz.func115, Tryz.ntmps115
  go_wp2
  rw [Lib.run_to_unsafe w ⟨b, 0, none⟩ Tryz.underlying81 Tryz.underlying121 hj (by rw [hjs]; decide) hsh (Nat.zero_lt_succ 1)]
  simp only [Result.andThen]
  rw [Oper.upon_value]
  go_wp2
  rw [run_callFunc_extern Tryz.func135 (by kernel_rfl) (by kernel_rfl) (by kernel_rfl) (e := Extern.AbiNoEscape.same) (by kernel_rfl)]
  rw [Lib.run_noEscape]
  simp only [Result.andThen]
  rw [Oper.upon_value]
  go_wp2
  rw [Lib.run_from_unsafe w ⟨b, 0, none⟩ Tryz.underlying121 Tryz.underlying81 hj hsh liesB]
  simp only [Result.andThen]
  rw [Oper.upon_value]
  go_wp2
  go_end0
  exact ⟨rfl, rfl⟩
theorem copyCheck_k (B b : Nat) (bs : List Value) (w : World) (h : Lib.IsBuilderF 83 5 B b bs w) :
    Calls Tryz.prog 115 #[.pointer (some ⟨b, 0, none⟩)] w fun e w' => e = .returned (.tuple #[]) ∧ (Lib.BuilderAtF 83 5 B b (.pointer (some ⟨b, 0, none⟩)) bs w' ∧ Below B w w' ∧ Lib.OthersKept 5 (some b) w w') := by
  rcases h with h | h
  · refine (copyCheck_fresh b w h.cell0 h.shape h.frozen0).mono ?_
    rintro e w' ⟨rfl, rfl⟩
    exact ⟨rfl, h.used _, (Below.refl B w).setCell (p := ⟨b, 0, none⟩) h.1 _, (Lib.OthersKept.refl _ _ w).setCell ⟨b, 0, none⟩ rfl _⟩
  · refine (copyCheck_used b w h.cell0).mono ?_
    rintro e w' ⟨rfl, rfl⟩
    exact ⟨rfl, h, Below.refl B _, Lib.OthersKept.refl _ _ _⟩
set_option maxHeartbeats 2000000 in
set_option maxRecDepth 100000 in
theorem writeString_k (B b : Nat) (bs : List Value) (s : ByteArray) (w : World) (h : Lib.IsBuilderF 83 5 B b bs w) (hlen : bs.length + s.size ≤ 140737488355328) (hBw : B ≤ w.heap.size) :
    Calls Tryz.prog 91 #[.pointer (some ⟨b, 0, none⟩), .string s] w fun e w' => e = .returned (.tuple #[.int .i64 s.size, .nilIface]) ∧ (Lib.BuilderAtF 83 5 B b (.pointer (some ⟨b, 0, none⟩)) (bs ++ Lib.strCells s) w' ∧ Below B w w' ∧ Lib.OthersKept 5 (some b) w w') := by
  obtain ⟨i0, hi, hz0, hz1, hz2⟩ := info_parts info5
  go_enter Tryz.func91, Tryz.ntmps91
  go_wp2_with (go_at_call 115; refine (copyCheck_k B b bs _ h).mono ?_)
  rintro e w1 ⟨rfl, h1, hb1, hk1⟩
  obtain ⟨hB, v, hbk, hown, hne⟩ := h1
  have c0 : w1.cell? ⟨b, 0, none⟩ = some (.pointer (some ⟨b, 0, none⟩)) := by rw [Lib.cell_of_heap hbk]; rfl
  have c1 : w1.cell? ⟨b, 1, none⟩ = some v := by rw [Lib.cell_of_heap hbk]; rfl
  go_wp2_with (at_builtin; refine Lib.wpList_append_own_stringF _ rfl _ _ 69 9 rfl B 5 i0 Tryz.underlying69 Tryz.underlying9 hi hz0 hz1 hz2 _ _ _ rfl hown s rfl ?c3 ?c4 ?c5 ?_)
  case c3 => unfold maxLen; omega
  case c4 => omega
  case c5 => have := hb1.size; omega
  intro v' w2 hown' hgrow _
  have hlt : b < w1.heap.size := by
    rcases Nat.lt_or_ge b w1.heap.size with h' | h'
    · exact h'
    · simp [Array.getElem?_eq_none h'] at hbk
  have hb2 : w2.heap[b]? = some (.cells #[.pointer (some ⟨b, 0, none⟩), v] 83 (0, 0)) := by
    rw [hgrow.block b hlt (fun e => hne e.symm)]
    exact hbk
  have d0 : w2.cell? ⟨b, 0, none⟩ = some (.pointer (some ⟨b, 0, none⟩)) := by rw [Lib.cell_of_heap hb2]; rfl
  have d1 : w2.cell? ⟨b, 1, none⟩ = some v := by rw [Lib.cell_of_heap hb2]; rfl
  have f1 : w2.frozen? ⟨b, 1, none⟩ = false := Lib.frozen_of_heap hb2 1
  obtain ⟨ao, n', cap, rfl⟩ : ∃ ao n' cap, v' = .slice ao n' cap := by
    rcases hown'.2 with ⟨hv, _⟩ | ⟨g, cap, cur, fz, hv, _⟩
    · exact ⟨_, _, _, hv⟩
    · exact ⟨_, _, _, hv⟩
  go_wp2
  go_ret2
  refine ⟨rfl, ?_, ?_, (hk1.grown hgrow (Lib.ownsRowF_kind hown)).setCell ⟨b, 1, none⟩ rfl _⟩
  · exact Lib.BuilderAtF.put (T := 83) (e := 5) hB hb2 (bs' := bs ++ Lib.strCells s) (by simpa [Lib.strCells_length] using hown') (by decide)
  · exact (hb1.grown hgrow (by have := hb1.size; omega) (fun k hk => (hown.lt k hk).1)).setCell (p := ⟨b, 1, none⟩) hB _
end Go.Proofs.YtaidmohjnbibiaaGreatDoor.Hd
end
section
/- whole.text: a number as a text, at every number whose parts have nine figures at most. -/
namespace Go.Proofs.YtaidmohjnbibiaaGreatDoor.Hd
open Go.RowKit Go.Proofs.YtaidmohjnbibiaaGreatDoorW.PrintWords Go.Proofs.YtaidmohjnbibiaaGreatDoorW.PrintLast Go.Proofs.YtaidmohjnbibiaaGreatDoorW.PrintMore Go.Proofs.YtaidmohjnbibiaaGreatDoor.B Go.Lib Go.Shelf
attribute [local go_sem] Oper.semAt_some
set_option linter.unusedVariables false
set_option linter.unusedSimpArgs false
/-- the text of part i -/
def chunk (l0 : List Int) (i : Fin l0.length) : List UInt8 := if i.1 < l0.length - 1 then List.replicate (9 - (decDigits (l0.getD i.1 0).toNat).length) 48 ++ decDigits (l0.getD i.1 0).toNat else decDigits (l0.getD i.1 0).toNat
def wtext.f (l0 : List Int) (a1 : Bool) : Option ByteArray :=
  if l0 = [] then some ⟨#[48]⟩ else if (∀ x ∈ l0, 0 ≤ x ∧ x < 1000000000) ∧ l0.length ≤ 1000000 then some ⟨((if a1 = true then [45] else []) ++ (bk l0.length l0.length).flatMap (chunk l0)).toArray⟩ else none
theorem bf_keep {T e : TypeId} {Bs b : Nat} {bs : List Value} {W W' : World} (h : IsBuilderF T e Bs b bs W) (hk : ∀ (k : Nat) (o : Obj), W.heap[k]? = some o → o.isCells = true → W'.heap[k]? = some o) : IsBuilderF T e Bs b bs W' := by
  have one : ∀ p, BuilderAtF T e Bs b p bs W → BuilderAtF T e Bs b p bs W' := by
    rintro p ⟨hB, v, hb, hown, hne⟩
    refine ⟨hB, v, hk _ _ hb rfl, ⟨hown.1, ?_⟩, hne⟩
    rcases hown.2 with h | ⟨g, cap, cur, fz, hv, hb', hg, rest⟩
    · exact .inl h
    · exact .inr ⟨g, cap, cur, fz, hv, hb', hk _ _ hg rfl, rest⟩
  rcases h with h | h
  · exact .inl (one _ h)
  · exact .inr (one _ h)
theorem bf_below {T e : TypeId} {Bs b : Nat} {bs : List Value} {W W' : World} (h : IsBuilderF T e Bs b bs W) (hb : Below W.heap.size W W') : IsBuilderF T e Bs b bs W' :=
  bf_keep h (fun k o hk _ => (hb.block k (Array.getElem?_eq_some_iff.1 hk).1).trans hk)
theorem dec9 (x : Int) (h0 : 0 ≤ x) (h1 : x < 1000000000) : (decDigits x.toNat).length ≤ 9 := by
  rw [decDigits_length]
  have h : ∀ (k u : Nat), u < 10 ^ (k + 1) → nDigits u ≤ k + 1 := by
    intro k
    induction k with
    | zero => intro u hu; rw [nDigits_small (by simpa using hu)]; exact Nat.le_refl _
    | succ k ih =>
      intro u hu
      by_cases h10 : u < 10
      · rw [nDigits_small h10]; omega
      · rw [nDigits_big h10]
        have := ih (u / 10) (by rw [Nat.pow_succ] at hu; omega)
        omega
  exact h 8 _ (by omega)
theorem repeat48 (c : Nat) : repeatL [48] c = List.replicate c 48 := by
  induction c with
  | zero => rfl
  | succ c ih => simp [repeatL, List.replicate_succ, ih]
set_option maxHeartbeats 1000000 in
theorem wtext.zero (A0 : Option Addr) (c0 : Nat) (l0 : List Int) (a1 : Bool) (w : World) (h : l0 = []) :
    Calls Tryz.prog 71 #[.agg #[.slice A0 l0.length c0, .bool a1]] w fun e w' => e = .returned (.string ⟨#[48]⟩) ∧ Below w.heap.size w w' := by
  subst h
  go_enter Tryz.func71, Tryz.ntmps71
  go_wp2
  go_ret
  exact ⟨rfl, (Below.refl _ w).alloc (Nat.le_refl _) _⟩
theorem chunk_len (l0 : List Int) (hp : ∀ x ∈ l0, 0 ≤ x ∧ x < 1000000000) (i : Fin l0.length) : (chunk l0 i).length ≤ 9 := by
  have hm : l0.getD i.1 0 ∈ l0 := by simp [List.getD, List.getElem?_eq_getElem i.2]
  have := dec9 _ (hp _ hm).1 (hp _ hm).2
  unfold chunk
  split
  · rw [List.length_append, List.length_replicate]; omega
  · exact this
theorem chunks_len (l0 : List Int) (hp : ∀ x ∈ l0, 0 ≤ x ∧ x < 1000000000) (pre : List (Fin l0.length)) : (pre.flatMap (chunk l0)).length ≤ 9 * pre.length := by
  induction pre with
  | nil => simp
  | cons x r ih =>
    rw [List.flatMap_cons, List.length_append, List.length_cons]
    have := chunk_len l0 hp x
    omega
theorem keeps_of {W W2 W3 : World} {e : TypeId} {b : Nat} {c : Array Value} {t : TypeId} {fz : Nat × Nat} (hb : Below W.heap.size W W2) (hk : OthersKept e (some b) W2 W3) (hbc : W2.heap[b]? = some (.cells c t fz)) (hs : W2.heap.size ≤ W3.heap.size) : KeepsOthers W W3 :=
  ⟨Nat.le_trans hb.size hs, fun k o ho hc => hk k o ((hb.block k (Array.getElem?_eq_some_iff.1 ho).1).trans ho) (fun e => by
      cases e
      have h1 := (hb.block b (Array.getElem?_eq_some_iff.1 ho).1).trans ho
      rw [hbc] at h1
      cases h1
      cases hc) (fun c' fz' e => by subst e; cases hc)⟩
set_option maxHeartbeats 4000000 in
set_option maxRecDepth 100000 in
theorem wtext.some_false (A0 : Option Addr) (c0 : Nat) (l0 : List Int) (w : World) (hr0 : Kd.C (Kd.int .u64) w A0 l0.length l0) (hG : GL w) (hne : l0 ≠ []) (hp : ∀ x ∈ l0, 0 ≤ x ∧ x < 1000000000) (hl : l0.length ≤ 1000000) :
    Calls Tryz.prog 71 #[.agg #[.slice A0 l0.length c0, .bool false]] w fun e w' => e = .returned (.string ⟨([] ++ (bk l0.length l0.length).flatMap (chunk l0)).toArray⟩) ∧ Below w.heap.size w w' := by
  have HR0 := Aside0.mk hr0
  have HP := Aside0.mk hp
  have HG := Aside0.mk hG
  clear hr0 hp hG
  have hpos : 0 < l0.length := List.length_pos_iff.mpr hne
  have h0 : ((l0.length : Int) == 0) = false := beq_eq_false_iff_ne.mpr (by omega)
  clear hne
  refine (callsIn_wide (n := 6)).1 ?_
  have hro : Fence.wide.round = none := rfl
  refine callsIn_of_wp_marks Tryz.func71 rfl trivial ?_ hro
  simp only [Tryz.ntmps71, List.size_toArray, List.length_cons, List.length_nil, Nat.reduceAdd, Nat.reduceSub, Array.replicate_succ, Array.replicate_zero, List.push_toArray, List.append_toArray, List.nil_append, List.cons_append]
  gi_wp2_with (first
    | (refine ⟨trivial, ?_⟩; gi_at_call 87; refine (back_in Fence.wide _ trivial rfl _ _ _ _).mono ?_; rintro e w' ⟨rfl, rfl⟩))
  obtain ⟨W0, hW0⟩ : ∃ W0, W0 = (((w.alloc (.cells #[.slice A0 l0.length c0, .bool false] 47)).alloc (.cells #[.pointer none, .slice none 0 0] 83)).alloc (.cells #[.slice A0 l0.length c0] 45) : World) := ⟨_, rfl⟩
  have hsz : W0.heap.size = w.heap.size + 3 := by rw [hW0]; simp
  have hB0 : Below w.heap.size w W0 := by
    rw [hW0]
    exact (((Below.refl _ w).alloc (Nat.le_refl _) _).alloc (by simp) _).alloc (by simp; omega) _
  have b0 : W0.heap[w.heap.size]? = some (.cells #[.slice A0 l0.length c0, .bool false] 47 (0, 0)) := by
    rw [hW0, heap_alloc_old _ _ (by simp <;> omega), heap_alloc_old _ _ (by simp), heap_alloc_new]
  have bB0 : W0.heap[w.heap.size + 1]? = some (.cells #[.pointer none, .slice none 0 0] 83 (0, 0)) := by
    rw [hW0, heap_alloc_old _ _ (by simp <;> omega)]
    have := heap_alloc_new (w.alloc (.cells #[.slice A0 l0.length c0, .bool false] 47)) (.cells #[.pointer none, .slice none 0 0] 83)
    rwa [World.size_alloc] at this
  have bB : IsBuilderF 83 5 w.heap.size (w.heap.size + 1) (Lib.byteCells ([] ++ ([] : List (Fin l0.length)).flatMap (chunk l0))) W0 := .inl ⟨by omega, .slice none 0 0, bB0, World.ownsRowF_nil _ _ _ _, by simp [Value.ownBlock]⟩
  have b3 : Boxed W0 (w.heap.size + 1 + 1) 45 (.slice A0 l0.length c0) := by
    rw [hW0]
    have e := Boxed.new ((w.alloc (.cells #[.slice A0 l0.length c0, .bool false] 47)).alloc (.cells #[.pointer none, .slice none 0 0] 83)) 45 (.slice A0 l0.length c0)
    rw [show ((w.alloc (.cells #[.slice A0 l0.length c0, .bool false] 47)).alloc (.cells #[.pointer none, .slice none 0 0] 83)).heap.size = w.heap.size + 1 + 1 from by simp] at e
    exact e
  rw [← hW0]
  clear hW0
  refine wpIn_rangeFunc_ownG hro (by omega) (gf := 107) (lb := #[.pointer (some ⟨(w.heap.size + 1 + 1), 0, none⟩)]) rfl trivial (enters_of Tryz.func107 (by kernel_rfl) rfl)
    (back_stops Fence.wide 5 trivial hro (by omega) (w.heap.size + 1 + 1) w.heap.size A0 c0 l0 w W0 rfl HR0.out hB0 b3) Kb.t (Kb.b (by omega) (by omega)) (Below.refl _ _) (fun _ => rfl)
    (fun pre W => ((W.heap[w.heap.size]? = some (.cells #[.slice A0 l0.length c0, .bool false] 47 (0, 0)) ∧ Boxed W (w.heap.size + 1 + 1) 45 (.slice A0 l0.length c0)) ∧ IsBuilderF 83 5 w.heap.size (w.heap.size + 1) (Lib.byteCells ([] ++ pre.flatMap (chunk l0))) W) ∧ Below w.heap.size w W)
    (fun _ _ _ => False)
    ?hI (fun _ _ _ _ _ hs _ _ => hs) ⟨⟨⟨b0, b3⟩, bB⟩, hB0⟩
    (fun x => { tmps := #[.agg #[.slice A0 l0.length c0, .bool false], .pointer (some ⟨w.heap.size, 0, none⟩), .string ⟨#[]⟩, .pointer (some ⟨w.heap.size + 1, 0, none⟩), (.int .i64 ((x.1 : Nat) : Int)), (.int .u64 (l0.getD x.1 0)), undef, .pointer (some ⟨w.heap.size, 0, none⟩), .slice A0 l0.length c0, .int .i64 (l0.length : Int), .bool false, .pointer (some ⟨w.heap.size, 1, none⟩), .bool false, undef, .pointer (some ⟨w.heap.size, 0, none⟩), .slice A0 l0.length c0, .func (.func 107) #[] #[.pointer (some ⟨(w.heap.size + 1 + 1), 0, none⟩)], (.int .i64 ((x.1 : Nat) : Int)), (.int .u64 (l0.getD x.1 0)), undef, undef, undef, undef, undef, undef, undef, undef, undef, undef, undef, undef, undef, undef, undef, undef, undef], defers := [] }) ?assign ?body ?done ?stop
  case hI =>
    intro s W W' row hs hg hr
    refine ⟨⟨⟨blk_kept hs.1.1.1 hg (fun r e => (hr r e).2), boxed_own _ _ (fun _ : Unit => _) () W W' row hs.1.1.2 hg (fun r e => (hr r e).2)⟩, bf_keep hs.1.2 (fun k o hk hc => (hg.block k (Array.getElem?_eq_some_iff.1 hk).1 (fun e => ?_)).trans hk)⟩, ownFrom_below (Nat.le_refl _) (by omega) () W W' row hs.2 hg hr⟩
    obtain ⟨_, o', ho', hc'⟩ := hr k e.symm
    rw [hk] at ho'
    cases ho'
    rw [hc] at hc'
    cases hc'
  case assign =>
    intro l x W K hK
    generalize l0.getD x.1 0 = v at *
    generalize x.1 = j at *
    gi_wp2
    exact hK
  case body =>
    rintro l pre x W ⟨⟨⟨h1, h2⟩, h3⟩, hB⟩ hpl
    have hm : l0.getD x.1 0 ∈ l0 := by simp [List.getD, List.getElem?_eq_getElem x.2]
    have hpx := HP.out _ hm
    obtain ⟨u, hu⟩ : ∃ u : Nat, u = (l0.getD x.1 0).toNat := ⟨_, rfl⟩
    have hux : l0.getD x.1 0 = (u : Int) := by omega
    have hu9 : u < 1000000000 := by omega
    have hd9 : (decDigits u).length ≤ 9 := by rw [hu]; exact dec9 _ hpx.1 hpx.2
    have hGW : GL W := HG.out.below hB
    have hcl := chunks_len l0 HP.out pre
    have hchunk : chunk l0 x = if x.1 < l0.length - 1 then List.replicate (9 - (decDigits u).length) 48 ++ decDigits u else decDigits u := by unfold chunk; rw [← hu]
    have HCH := Aside0.mk hchunk
    obtain ⟨j, hj⟩ : ∃ j : Nat, j = x.1 := ⟨_, rfl⟩
    have hjl : j < l0.length := by rw [hj]; exact x.2
    rw [hux, ← hj]
    rw [← hj] at hchunk
    have HC2 := Aside0.mk hchunk
    clear hm hpx hu hux hchunk hj
    have HF := Aside0.mk (fmtU u (by omega) W hGW)
    have hwr : IntKind.i64.wrap ((l0.length : Int) - 1) = (l0.length : Int) - 1 := by rw [IntKind.wrap_i64]; omega
    have hwlt := (Array.getElem?_eq_some_iff.1 h1).1
    by_cases hjn : j < l0.length - 1
    · have d1 : decide ((j : Int) < (l0.length : Int) - 1) = true := decide_eq_true (by omega)
      have d2 : ((j : Int) < (l0.length : Int) - 1) := by omega
      have HC3 := Aside0.mk (HC2.out.trans (if_pos hjn))
      have HRep := Aside0.mk (fun (V : World) => show Calls Tryz.prog 93 #[.string ⟨#[48]⟩, .int .i64 (9 - ((decDigits u).length : Int))] V (fun e w' => e = .returned (.string ⟨(List.replicate (9 - (decDigits u).length) 48).toArray⟩) ∧ Below V.heap.size V w') from by
        have h := Tryz.strings_Repeat ⟨#[48]⟩ (9 - (decDigits u).length) V (by omega) (by show 1 * _ ≤ _; omega)
        rw [show ((9 - (decDigits u).length : Nat) : Int) = 9 - ((decDigits u).length : Int) by omega, show (⟨#[48]⟩ : ByteArray).data.toList = [48] from rfl, repeat48] at h
        exact h)
      gi_wp2_with (first | (refine ⟨trivial, ?_⟩; gi_at_call 92; refine (CallsIn.inRound l (callsIn_wide.2 HF.out)).mono ?_; rintro e W1 ⟨rfl, hb1⟩; have q1 : W1.heap[w.heap.size]? = some (.cells #[.slice A0 l0.length c0, .bool false] 47 (0, 0)) := (hb1.block _ hwlt).trans h1; have g1 : W1.cell? ⟨w.heap.size, 0, none⟩ = some (.slice A0 l0.length c0) := by rw [Lib.cell_of_heap q1]; rfl) | (refine ⟨trivial, ?_⟩; gi_at_call 93; refine (CallsIn.inRound l (callsIn_wide.2 (HRep.out _))).mono ?_; rintro e W2 ⟨rfl, hb2⟩))
      have hW2 : Below W.heap.size W W2 := hb1.trans (hb2.mono hb1.size)
      have hs : ({ data := Array.replicate (9 - (decDigits u).length) 48 } ++ { data := (decDigits u).toArray } : ByteArray) = ⟨(chunk l0 x).toArray⟩ := by
        rw [HC3.out]
        apply ByteArray.ext
        simp
      rw [hs]
      have hbf := bf_below h3 hW2
      have hbk : ∃ c, W2.heap[w.heap.size + 1]? = some (.cells c 83 (0, 0)) := by
        rcases hbf with ⟨_, v, hb, _⟩ | ⟨_, v, hb, _⟩
        · exact ⟨_, hb⟩
        · exact ⟨_, hb⟩
      obtain ⟨cb, hbk⟩ := hbk
      have hch := chunk_len l0 HP.out x
      refine ⟨trivial, ?_⟩
      refine (CallsIn.inRound l (callsIn_wide.2 (writeString_k w.heap.size (w.heap.size + 1) _ _ W2 hbf (by rw [Lib.byteCells_length, List.length_append]; show _ + (chunk l0 x).toArray.size ≤ _; rw [List.size_toArray]; simp only [List.length_cons, List.length_nil]; omega) (Nat.le_trans hB.size hW2.size)))).mono ?_
      rintro e W3 ⟨rfl, h4, hb4, hk4⟩
      have hb5 : Below w.heap.size W W3 := (hW2.mono hB.size).trans hb4
      have k1 : W3.heap[w.heap.size]? = some (.cells #[.slice A0 l0.length c0, .bool false] 47 (0, 0)) := hk4 _ _ ((hW2.block _ hwlt).trans h1) (fun e => by have := Option.some.inj e; omega) (fun c fz e => by cases e)
      have k2 : W3.heap[(w.heap.size + 1 + 1)]? = some (.cells #[.slice A0 l0.length c0] 45 (0, 0)) := hk4 _ _ ((hW2.block _ h2.lt).trans h2) (fun e => by have := Option.some.inj e; omega) (fun c fz e => by cases e)
      have hbytes : Lib.byteCells ([] ++ (pre ++ [x]).flatMap (chunk l0)) = Lib.byteCells ([] ++ pre.flatMap (chunk l0)) ++ strCells ⟨(chunk l0 x).toArray⟩ := by
        rw [List.flatMap_append, ← List.append_assoc, Lib.byteCells_append]
        first | done | simp [strCells, Lib.byteCells]
      gi_wp2
      refine ⟨(keeps_of hW2 hk4 hbk hb4.size).from _, ⟨hb5, k2.trans h2.symm⟩, ⟨⟨⟨k1, k2⟩, ?_⟩, hB.trans hb5⟩⟩
      rw [hbytes]
      exact .inr h4
    · have d1 : decide ((j : Int) < (l0.length : Int) - 1) = false := decide_eq_false (by omega)
      have HC3 := Aside0.mk (HC2.out.trans (if_neg hjn))
      gi_wp2_with (first | (refine ⟨trivial, ?_⟩; gi_at_call 92; refine (CallsIn.inRound l (callsIn_wide.2 HF.out)).mono ?_; rintro e W1 ⟨rfl, hb1⟩; have q1 : W1.heap[w.heap.size]? = some (.cells #[.slice A0 l0.length c0, .bool false] 47 (0, 0)) := (hb1.block _ hwlt).trans h1; have g1 : W1.cell? ⟨w.heap.size, 0, none⟩ = some (.slice A0 l0.length c0) := by rw [Lib.cell_of_heap q1]; rfl))
      have hW2 : Below W.heap.size W W1 := hb1
      have hs : ({ data := (decDigits u).toArray } : ByteArray) = ⟨(chunk l0 x).toArray⟩ := by
        rw [HC3.out]
      rw [hs]
      have hbf := bf_below h3 hW2
      have hbk : ∃ c, W1.heap[w.heap.size + 1]? = some (.cells c 83 (0, 0)) := by
        rcases hbf with ⟨_, v, hb, _⟩ | ⟨_, v, hb, _⟩
        · exact ⟨_, hb⟩
        · exact ⟨_, hb⟩
      obtain ⟨cb, hbk⟩ := hbk
      have hch := chunk_len l0 HP.out x
      refine ⟨trivial, ?_⟩
      refine (CallsIn.inRound l (callsIn_wide.2 (writeString_k w.heap.size (w.heap.size + 1) _ _ W1 hbf (by rw [Lib.byteCells_length, List.length_append]; show _ + (chunk l0 x).toArray.size ≤ _; rw [List.size_toArray]; simp only [List.length_cons, List.length_nil]; omega) (Nat.le_trans hB.size hW2.size)))).mono ?_
      rintro e W3 ⟨rfl, h4, hb4, hk4⟩
      have hb5 : Below w.heap.size W W3 := (hW2.mono hB.size).trans hb4
      have k1 : W3.heap[w.heap.size]? = some (.cells #[.slice A0 l0.length c0, .bool false] 47 (0, 0)) := hk4 _ _ ((hW2.block _ hwlt).trans h1) (fun e => by have := Option.some.inj e; omega) (fun c fz e => by cases e)
      have k2 : W3.heap[(w.heap.size + 1 + 1)]? = some (.cells #[.slice A0 l0.length c0] 45 (0, 0)) := hk4 _ _ ((hW2.block _ h2.lt).trans h2) (fun e => by have := Option.some.inj e; omega) (fun c fz e => by cases e)
      have hbytes : Lib.byteCells ([] ++ (pre ++ [x]).flatMap (chunk l0)) = Lib.byteCells ([] ++ pre.flatMap (chunk l0)) ++ strCells ⟨(chunk l0 x).toArray⟩ := by
        rw [List.flatMap_append, ← List.append_assoc, Lib.byteCells_append]
        first | done | simp [strCells, Lib.byteCells]
      gi_wp2
      refine ⟨(keeps_of hW2 hk4 hbk hb4.size).from _, ⟨hb5, k2.trans h2.symm⟩, ⟨⟨⟨k1, k2⟩, ?_⟩, hB.trans hb5⟩⟩
      rw [hbytes]
      exact .inr h4
  case done =>
    rintro D ys W hD rfl ⟨⟨⟨h1, h2⟩, h3⟩, hB⟩ hK
    have HS := Aside0.mk (Tryz.Builder_String_any_k w.heap.size (w.heap.size + 1) _ W h3 hB.size)
    gi_wp2_with (refine ⟨trivial, ?_⟩; gi_at_call 94; refine (callsIn_wide.2 HS.out).mono ?_; rintro e W4 ⟨rfl, _, hb4, hk4⟩)
    have hbk : ∃ c, W.heap[w.heap.size + 1]? = some (.cells c 83 (0, 0)) := by
      rcases h3 with ⟨_, v, hb, _⟩ | ⟨_, v, hb, _⟩
      · exact ⟨_, hb⟩
      · exact ⟨_, hb⟩
    obtain ⟨cb, hbk⟩ := hbk
    have hK4 : W4.heap[D]? = some (.deferred (some [])) := hk4 _ _ hK (fun e => by have e1 := Option.some.inj e; rw [e1, hbk] at hK; cases hK) (fun c fz e => by cases e)
    refine ⟨by simp, .inl ⟨_, _, rfl, run_takeDeferred hK4, ?_⟩⟩
    exact ⟨_, by simp [results, Tryz.f71, go_sem], rfl, (hB.trans hb4).trans (belowK_b (w := w) (Nat.le_refl _) W4 D _ _ (by omega) hK4 rfl rfl)⟩
  case stop =>
    rintro D c pre W _ _ h _
    exact h.elim
set_option maxHeartbeats 4000000 in
set_option maxRecDepth 100000 in
theorem wtext.some_true (A0 : Option Addr) (c0 : Nat) (l0 : List Int) (w : World) (hr0 : Kd.C (Kd.int .u64) w A0 l0.length l0) (hG : GL w) (hne : l0 ≠ []) (hp : ∀ x ∈ l0, 0 ≤ x ∧ x < 1000000000) (hl : l0.length ≤ 1000000) :
    Calls Tryz.prog 71 #[.agg #[.slice A0 l0.length c0, .bool true]] w fun e w' => e = .returned (.string ⟨([45] ++ (bk l0.length l0.length).flatMap (chunk l0)).toArray⟩) ∧ Below w.heap.size w w' := by
  have HR0 := Aside0.mk hr0
  have HP := Aside0.mk hp
  have HG := Aside0.mk hG
  clear hr0 hp hG
  have hpos : 0 < l0.length := List.length_pos_iff.mpr hne
  have h0 : ((l0.length : Int) == 0) = false := beq_eq_false_iff_ne.mpr (by omega)
  clear hne
  refine (callsIn_wide (n := 6)).1 ?_
  have hro : Fence.wide.round = none := rfl
  refine callsIn_of_wp_marks Tryz.func71 rfl trivial ?_ hro
  simp only [Tryz.ntmps71, List.size_toArray, List.length_cons, List.length_nil, Nat.reduceAdd, Nat.reduceSub, Array.replicate_succ, Array.replicate_zero, List.push_toArray, List.append_toArray, List.nil_append, List.cons_append]
  obtain ⟨V0, hV0⟩ : ∃ V0, V0 = ((w.alloc (.cells #[.slice A0 l0.length c0, .bool true] 47)).alloc (.cells #[.pointer none, .slice none 0 0] 83) : World) := ⟨_, rfl⟩
  have hsz : V0.heap.size = w.heap.size + 2 := by rw [hV0]; simp
  have hB0 : Below w.heap.size w V0 := by
    rw [hV0]
    exact ((Below.refl _ w).alloc (Nat.le_refl _) _).alloc (by simp) _
  have v0 : V0.heap[w.heap.size]? = some (.cells #[.slice A0 l0.length c0, .bool true] 47 (0, 0)) := by
    rw [hV0, heap_alloc_old _ _ (by simp), heap_alloc_new]
  have vB0 : V0.heap[w.heap.size + 1]? = some (.cells #[.pointer none, .slice none 0 0] 83 (0, 0)) := by
    rw [hV0]
    have := heap_alloc_new (w.alloc (.cells #[.slice A0 l0.length c0, .bool true] 47)) (.cells #[.pointer none, .slice none 0 0] 83)
    rwa [World.size_alloc] at this
  have vB : IsBuilderF 83 5 w.heap.size (w.heap.size + 1) [] V0 := .inl ⟨by omega, .slice none 0 0, vB0, World.ownsRowF_nil _ _ _ _, by simp [Value.ownBlock]⟩
  have HW := Aside0.mk (writeString_k w.heap.size (w.heap.size + 1) [] ⟨#[45]⟩ V0 vB (by decide) (by omega))
  rw [hV0] at HW
  gi_wp2_with (first
    | (refine ⟨trivial, ?_⟩; gi_at_call 91; refine (callsIn_wide.2 HW.out).mono ?_; rintro e V1 ⟨rfl, h4, hb4, hk4⟩; have q1 : V1.heap[w.heap.size]? = some (.cells #[.slice A0 l0.length c0, .bool true] 47 (0, 0)) := hk4 _ _ (hV0 ▸ v0) (fun e => by have := Option.some.inj e; omega) (fun c fz e => by cases e); have g1 : V1.cell? ⟨w.heap.size, 0, none⟩ = some (.slice A0 l0.length c0) := by rw [Lib.cell_of_heap q1]; rfl)
    | (refine ⟨trivial, ?_⟩; gi_at_call 87; refine (back_in Fence.wide _ trivial rfl _ _ _ _).mono ?_; rintro e w' ⟨rfl, rfl⟩))
  rw [← hV0] at hb4 hk4
  have hV1 : w.heap.size + 2 ≤ V1.heap.size := by have := hb4.size; omega
  obtain ⟨W0, hW0⟩ : ∃ W0, W0 = (V1.alloc (.cells #[.slice A0 l0.length c0] 45) : World) := ⟨_, rfl⟩
  obtain ⟨Q, hQ⟩ : ∃ Q, Q = V1.heap.size := ⟨_, rfl⟩
  have hsz0 : W0.heap.size = Q + 1 := by rw [hW0, hQ]; simp
  have hB1 : Below w.heap.size w W0 := by
    rw [hW0]
    exact (hB0.trans hb4).alloc (by omega) _
  have b0 : W0.heap[w.heap.size]? = some (.cells #[.slice A0 l0.length c0, .bool true] 47 (0, 0)) := by
    rw [hW0, heap_alloc_old _ _ (by omega)]
    exact q1
  have bB : IsBuilderF 83 5 w.heap.size (w.heap.size + 1) (Lib.byteCells ([45] ++ ([] : List (Fin l0.length)).flatMap (chunk l0))) W0 := by
    rw [hW0]
    exact IsBuilderF.alloc (.inr h4) _
  have b3 : Boxed W0 Q 45 (.slice A0 l0.length c0) := by
    rw [hW0, hQ]
    exact Boxed.new _ _ _
  rw [← hW0]
  rw [← hQ] at hV1 ⊢
  clear hW0 hB0 hsz hQ
  have hB0 := hB1
  have hsz : W0.heap.size = Q + 1 := hsz0
  refine wpIn_rangeFunc_ownG hro (by omega) (gf := 107) (lb := #[.pointer (some ⟨Q, 0, none⟩)]) rfl trivial (enters_of Tryz.func107 (by kernel_rfl) rfl)
    (back_stops Fence.wide 5 trivial hro (by omega) Q w.heap.size A0 c0 l0 w W0 rfl HR0.out hB0 b3) Kb.t (Kb.b (by omega) (by omega)) (Below.refl _ _) (fun _ => rfl)
    (fun pre W => ((W.heap[w.heap.size]? = some (.cells #[.slice A0 l0.length c0, .bool true] 47 (0, 0)) ∧ Boxed W Q 45 (.slice A0 l0.length c0)) ∧ IsBuilderF 83 5 w.heap.size (w.heap.size + 1) (Lib.byteCells ([45] ++ pre.flatMap (chunk l0))) W) ∧ Below w.heap.size w W)
    (fun _ _ _ => False)
    ?hI (fun _ _ _ _ _ hs _ _ => hs) ⟨⟨⟨b0, b3⟩, bB⟩, hB0⟩
    (fun x => { tmps := #[.agg #[.slice A0 l0.length c0, .bool true], .pointer (some ⟨w.heap.size, 0, none⟩), .string ⟨#[]⟩, .pointer (some ⟨w.heap.size + 1, 0, none⟩), (.int .i64 ((x.1 : Nat) : Int)), (.int .u64 (l0.getD x.1 0)), undef, .pointer (some ⟨w.heap.size, 0, none⟩), .slice A0 l0.length c0, .int .i64 (l0.length : Int), .bool false, .pointer (some ⟨w.heap.size, 1, none⟩), .bool true, .tuple #[.int .i64 1, .nilIface], .pointer (some ⟨w.heap.size, 0, none⟩), .slice A0 l0.length c0, .func (.func 107) #[] #[.pointer (some ⟨Q, 0, none⟩)], (.int .i64 ((x.1 : Nat) : Int)), (.int .u64 (l0.getD x.1 0)), undef, undef, undef, undef, undef, undef, undef, undef, undef, undef, undef, undef, undef, undef, undef, undef, undef], defers := [] }) ?assign ?body ?done ?stop
  case hI =>
    intro s W W' row hs hg hr
    refine ⟨⟨⟨blk_kept hs.1.1.1 hg (fun r e => (hr r e).2), boxed_own _ _ (fun _ : Unit => _) () W W' row hs.1.1.2 hg (fun r e => (hr r e).2)⟩, bf_keep hs.1.2 (fun k o hk hc => (hg.block k (Array.getElem?_eq_some_iff.1 hk).1 (fun e => ?_)).trans hk)⟩, ownFrom_below (Nat.le_refl _) (by omega) () W W' row hs.2 hg hr⟩
    obtain ⟨_, o', ho', hc'⟩ := hr k e.symm
    rw [hk] at ho'
    cases ho'
    rw [hc] at hc'
    cases hc'
  case assign =>
    intro l x W K hK
    generalize l0.getD x.1 0 = v at *
    generalize x.1 = j at *
    gi_wp2
    exact hK
  case body =>
    rintro l pre x W ⟨⟨⟨h1, h2⟩, h3⟩, hB⟩ hpl
    have hm : l0.getD x.1 0 ∈ l0 := by simp [List.getD, List.getElem?_eq_getElem x.2]
    have hpx := HP.out _ hm
    obtain ⟨u, hu⟩ : ∃ u : Nat, u = (l0.getD x.1 0).toNat := ⟨_, rfl⟩
    have hux : l0.getD x.1 0 = (u : Int) := by omega
    have hu9 : u < 1000000000 := by omega
    have hd9 : (decDigits u).length ≤ 9 := by rw [hu]; exact dec9 _ hpx.1 hpx.2
    have hGW : GL W := HG.out.below hB
    have hcl := chunks_len l0 HP.out pre
    have hchunk : chunk l0 x = if x.1 < l0.length - 1 then List.replicate (9 - (decDigits u).length) 48 ++ decDigits u else decDigits u := by unfold chunk; rw [← hu]
    have HCH := Aside0.mk hchunk
    obtain ⟨j, hj⟩ : ∃ j : Nat, j = x.1 := ⟨_, rfl⟩
    have hjl : j < l0.length := by rw [hj]; exact x.2
    rw [hux, ← hj]
    rw [← hj] at hchunk
    have HC2 := Aside0.mk hchunk
    clear hm hpx hu hux hchunk hj
    have HF := Aside0.mk (fmtU u (by omega) W hGW)
    have hwr : IntKind.i64.wrap ((l0.length : Int) - 1) = (l0.length : Int) - 1 := by rw [IntKind.wrap_i64]; omega
    have hwlt := (Array.getElem?_eq_some_iff.1 h1).1
    by_cases hjn : j < l0.length - 1
    · have d1 : decide ((j : Int) < (l0.length : Int) - 1) = true := decide_eq_true (by omega)
      have d2 : ((j : Int) < (l0.length : Int) - 1) := by omega
      have HC3 := Aside0.mk (HC2.out.trans (if_pos hjn))
      have HRep := Aside0.mk (fun (V : World) => show Calls Tryz.prog 93 #[.string ⟨#[48]⟩, .int .i64 (9 - ((decDigits u).length : Int))] V (fun e w' => e = .returned (.string ⟨(List.replicate (9 - (decDigits u).length) 48).toArray⟩) ∧ Below V.heap.size V w') from by
        have h := Tryz.strings_Repeat ⟨#[48]⟩ (9 - (decDigits u).length) V (by omega) (by show 1 * _ ≤ _; omega)
        rw [show ((9 - (decDigits u).length : Nat) : Int) = 9 - ((decDigits u).length : Int) by omega, show (⟨#[48]⟩ : ByteArray).data.toList = [48] from rfl, repeat48] at h
        exact h)
      gi_wp2_with (first | (refine ⟨trivial, ?_⟩; gi_at_call 92; refine (CallsIn.inRound l (callsIn_wide.2 HF.out)).mono ?_; rintro e W1 ⟨rfl, hb1⟩; have q1 : W1.heap[w.heap.size]? = some (.cells #[.slice A0 l0.length c0, .bool true] 47 (0, 0)) := (hb1.block _ hwlt).trans h1; have g1 : W1.cell? ⟨w.heap.size, 0, none⟩ = some (.slice A0 l0.length c0) := by rw [Lib.cell_of_heap q1]; rfl) | (refine ⟨trivial, ?_⟩; gi_at_call 93; refine (CallsIn.inRound l (callsIn_wide.2 (HRep.out _))).mono ?_; rintro e W2 ⟨rfl, hb2⟩))
      have hW2 : Below W.heap.size W W2 := hb1.trans (hb2.mono hb1.size)
      have hs : ({ data := Array.replicate (9 - (decDigits u).length) 48 } ++ { data := (decDigits u).toArray } : ByteArray) = ⟨(chunk l0 x).toArray⟩ := by
        rw [HC3.out]
        apply ByteArray.ext
        simp
      rw [hs]
      have hbf := bf_below h3 hW2
      have hbk : ∃ c, W2.heap[w.heap.size + 1]? = some (.cells c 83 (0, 0)) := by
        rcases hbf with ⟨_, v, hb, _⟩ | ⟨_, v, hb, _⟩
        · exact ⟨_, hb⟩
        · exact ⟨_, hb⟩
      obtain ⟨cb, hbk⟩ := hbk
      have hch := chunk_len l0 HP.out x
      refine ⟨trivial, ?_⟩
      refine (CallsIn.inRound l (callsIn_wide.2 (writeString_k w.heap.size (w.heap.size + 1) _ _ W2 hbf (by rw [Lib.byteCells_length, List.length_append]; show _ + (chunk l0 x).toArray.size ≤ _; rw [List.size_toArray]; simp only [List.length_cons, List.length_nil]; omega) (Nat.le_trans hB.size hW2.size)))).mono ?_
      rintro e W3 ⟨rfl, h4, hb4, hk4⟩
      have hb5 : Below w.heap.size W W3 := (hW2.mono hB.size).trans hb4
      have k1 : W3.heap[w.heap.size]? = some (.cells #[.slice A0 l0.length c0, .bool true] 47 (0, 0)) := hk4 _ _ ((hW2.block _ hwlt).trans h1) (fun e => by have := Option.some.inj e; omega) (fun c fz e => by cases e)
      have k2 : W3.heap[Q]? = some (.cells #[.slice A0 l0.length c0] 45 (0, 0)) := hk4 _ _ ((hW2.block _ h2.lt).trans h2) (fun e => by have := Option.some.inj e; omega) (fun c fz e => by cases e)
      have hbytes : Lib.byteCells ([45] ++ (pre ++ [x]).flatMap (chunk l0)) = Lib.byteCells ([45] ++ pre.flatMap (chunk l0)) ++ strCells ⟨(chunk l0 x).toArray⟩ := by
        rw [List.flatMap_append, ← List.append_assoc, Lib.byteCells_append]
        first | done | simp [strCells, Lib.byteCells]
      gi_wp2
      refine ⟨(keeps_of hW2 hk4 hbk hb4.size).from _, ⟨hb5, k2.trans h2.symm⟩, ⟨⟨⟨k1, k2⟩, ?_⟩, hB.trans hb5⟩⟩
      rw [hbytes]
      exact .inr h4
    · have d1 : decide ((j : Int) < (l0.length : Int) - 1) = false := decide_eq_false (by omega)
      have HC3 := Aside0.mk (HC2.out.trans (if_neg hjn))
      gi_wp2_with (first | (refine ⟨trivial, ?_⟩; gi_at_call 92; refine (CallsIn.inRound l (callsIn_wide.2 HF.out)).mono ?_; rintro e W1 ⟨rfl, hb1⟩; have q1 : W1.heap[w.heap.size]? = some (.cells #[.slice A0 l0.length c0, .bool true] 47 (0, 0)) := (hb1.block _ hwlt).trans h1; have g1 : W1.cell? ⟨w.heap.size, 0, none⟩ = some (.slice A0 l0.length c0) := by rw [Lib.cell_of_heap q1]; rfl))
      have hW2 : Below W.heap.size W W1 := hb1
      have hs : ({ data := (decDigits u).toArray } : ByteArray) = ⟨(chunk l0 x).toArray⟩ := by
        rw [HC3.out]
      rw [hs]
      have hbf := bf_below h3 hW2
      have hbk : ∃ c, W1.heap[w.heap.size + 1]? = some (.cells c 83 (0, 0)) := by
        rcases hbf with ⟨_, v, hb, _⟩ | ⟨_, v, hb, _⟩
        · exact ⟨_, hb⟩
        · exact ⟨_, hb⟩
      obtain ⟨cb, hbk⟩ := hbk
      have hch := chunk_len l0 HP.out x
      refine ⟨trivial, ?_⟩
      refine (CallsIn.inRound l (callsIn_wide.2 (writeString_k w.heap.size (w.heap.size + 1) _ _ W1 hbf (by rw [Lib.byteCells_length, List.length_append]; show _ + (chunk l0 x).toArray.size ≤ _; rw [List.size_toArray]; simp only [List.length_cons, List.length_nil]; omega) (Nat.le_trans hB.size hW2.size)))).mono ?_
      rintro e W3 ⟨rfl, h4, hb4, hk4⟩
      have hb5 : Below w.heap.size W W3 := (hW2.mono hB.size).trans hb4
      have k1 : W3.heap[w.heap.size]? = some (.cells #[.slice A0 l0.length c0, .bool true] 47 (0, 0)) := hk4 _ _ ((hW2.block _ hwlt).trans h1) (fun e => by have := Option.some.inj e; omega) (fun c fz e => by cases e)
      have k2 : W3.heap[Q]? = some (.cells #[.slice A0 l0.length c0] 45 (0, 0)) := hk4 _ _ ((hW2.block _ h2.lt).trans h2) (fun e => by have := Option.some.inj e; omega) (fun c fz e => by cases e)
      have hbytes : Lib.byteCells ([45] ++ (pre ++ [x]).flatMap (chunk l0)) = Lib.byteCells ([45] ++ pre.flatMap (chunk l0)) ++ strCells ⟨(chunk l0 x).toArray⟩ := by
        rw [List.flatMap_append, ← List.append_assoc, Lib.byteCells_append]
        first | done | simp [strCells, Lib.byteCells]
      gi_wp2
      refine ⟨(keeps_of hW2 hk4 hbk hb4.size).from _, ⟨hb5, k2.trans h2.symm⟩, ⟨⟨⟨k1, k2⟩, ?_⟩, hB.trans hb5⟩⟩
      rw [hbytes]
      exact .inr h4
  case done =>
    rintro D ys W hD rfl ⟨⟨⟨h1, h2⟩, h3⟩, hB⟩ hK
    have HS := Aside0.mk (Tryz.Builder_String_any_k w.heap.size (w.heap.size + 1) _ W h3 hB.size)
    gi_wp2_with (refine ⟨trivial, ?_⟩; gi_at_call 94; refine (callsIn_wide.2 HS.out).mono ?_; rintro e W4 ⟨rfl, _, hb4, hk4⟩)
    have hbk : ∃ c, W.heap[w.heap.size + 1]? = some (.cells c 83 (0, 0)) := by
      rcases h3 with ⟨_, v, hb, _⟩ | ⟨_, v, hb, _⟩
      · exact ⟨_, hb⟩
      · exact ⟨_, hb⟩
    obtain ⟨cb, hbk⟩ := hbk
    have hK4 : W4.heap[D]? = some (.deferred (some [])) := hk4 _ _ hK (fun e => by have e1 := Option.some.inj e; rw [e1, hbk] at hK; cases hK) (fun c fz e => by cases e)
    refine ⟨by simp, .inl ⟨_, _, rfl, run_takeDeferred hK4, ?_⟩⟩
    exact ⟨_, by simp [results, Tryz.f71, go_sem], rfl, (hB.trans hb4).trans (belowK_b (w := w) (Nat.le_refl _) W4 D _ _ (by omega) hK4 rfl rfl)⟩
  case stop =>
    rintro D c pre W _ _ h _
    exact h.elim
theorem wtext.calls (A0 : Option Addr) (c0 : Nat) (l0 : List Int) (a1 : Bool) (r : ByteArray) (w : World) (hr0 : Kd.C (Kd.int .u64) w A0 l0.length l0) (hc0 : l0.length ≤ c0) (hG : GL w) (h : wtext.f l0 a1 = some r) :
    Calls Tryz.prog 71 #[.agg #[.slice A0 l0.length c0, .bool a1]] w fun e w' => e = .returned (.string r) ∧ Below w.heap.size w w' := by
  unfold wtext.f at h
  by_cases h0 : l0 = []
  · rw [if_pos h0, Option.some.injEq] at h
    subst h
    exact wtext.zero A0 c0 l0 a1 w h0
  · rw [if_neg h0] at h
    split at h
    · rename_i hp
      simp only [Option.some.injEq] at h
      subst h
      cases a1 with
      | false => exact wtext.some_false A0 c0 l0 w hr0 hG h0 hp.1 hp.2
      | true => exact wtext.some_true A0 c0 l0 w hr0 hG h0 hp.1 hp.2
    · cases h
end Go.Proofs.YtaidmohjnbibiaaGreatDoor.Hd
end
