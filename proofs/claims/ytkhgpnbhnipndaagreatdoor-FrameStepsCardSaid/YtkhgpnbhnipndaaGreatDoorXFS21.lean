/- What the law leans on, part 22: declarations of several texts of ours, in their order. -/
import Derived.Test.YtkhgpnbhnipndaaGreatDoorXFS19
import Derived.Test.YtkhgpnbhnipndaaGreatDoorXFS20
import Derived.RangeFuncNested
import Derived.RangeFuncBound
import Derived.RangeFuncCalls
import Derived.RangeFuncLeaves
import Derived.Shelf.Abstract
import Derived.Shelf.RegionOpen
import Derived.OwnWalkIn
import Derived.TacticsInMore
import Derived.LoopNIn
import Derived.LoopIn
section
/- whole.text: a number as a text, at every number whose parts have nine figures at most. -/
namespace Go.Proofs.YtkhgpnbhnipndaaGreatDoor.Hd
open Go.RowKit Go.Proofs.YtkhgpnbhnipndaaGreatDoorW.PrintWords Go.Proofs.YtkhgpnbhnipndaaGreatDoorW.PrintLast Go.Proofs.YtkhgpnbhnipndaaGreatDoorW.PrintMore Go.Proofs.YtkhgpnbhnipndaaGreatDoor.B Go.Lib Go.Shelf
attribute [local go_sem] Oper.semAt_some
set_option linter.unusedVariables false
set_option linter.unusedSimpArgs false
/-- the text of part i -/
def chunk (l0 : List Int) (i : Fin l0.length) : List UInt8 := if i.1 < l0.length - 1 then List.replicate (9 - (decDigits (l0.getD i.1 0).toNat).length) 48 ++ decDigits (l0.getD i.1 0).toNat else decDigits (l0.getD i.1 0).toNat
def wtext.f (l0 : List Int) (a1 : Bool) : Option ByteArray :=
  if l0 = [] then some ⟨#[48]⟩ else if (∀ x ∈ l0, 0 ≤ x ∧ x < 1000000000) ∧ l0.length ≤ 1000000 then some ⟨((if a1 = true then [45] else []) ++ (bk l0.length l0.length).flatMap (chunk l0)).toArray⟩ else none
theorem bf_keep {T e : TypeId} {Bs b : Nat} {bs : List Value} {W W' : World} (h : IsBuilderF T e Bs b bs W) (hk : ∀ (k : Nat) (o : Obj), W.heap[k]? = some o → o.isCells = true → W'.heap[k]? = some o) : IsBuilderF T e Bs b bs W' := by
  have one : ∀ p, BuilderAtF T e Bs b p bs W → BuilderAtF T e Bs b p bs W' := by
    rintro p ⟨hB, v, hb, hown, hne⟩
    refine ⟨hB, v, hk _ _ hb rfl, ⟨hown.1, ?_⟩, hne⟩
    rcases hown.2 with h | ⟨g, cap, cur, fz, hv, hb', hg, rest⟩
    · exact .inl h
    · exact .inr ⟨g, cap, cur, fz, hv, hb', hk _ _ hg rfl, rest⟩
  rcases h with h | h
  · exact .inl (one _ h)
  · exact .inr (one _ h)
theorem bf_below {T e : TypeId} {Bs b : Nat} {bs : List Value} {W W' : World} (h : IsBuilderF T e Bs b bs W) (hb : Below W.heap.size W W') : IsBuilderF T e Bs b bs W' :=
  bf_keep h (fun k o hk _ => (hb.block k (Array.getElem?_eq_some_iff.1 hk).1).trans hk)
theorem dec9 (x : Int) (h0 : 0 ≤ x) (h1 : x < 1000000000) : (decDigits x.toNat).length ≤ 9 := by
  rw [decDigits_length]
  have h : ∀ (k u : Nat), u < 10 ^ (k + 1) → nDigits u ≤ k + 1 := by
    intro k
    induction k with
    | zero => intro u hu; rw [nDigits_small (by simpa using hu)]; exact Nat.le_refl _
    | succ k ih =>
      intro u hu
      by_cases h10 : u < 10
      · rw [nDigits_small h10]; omega
      · rw [nDigits_big h10]
        have := ih (u / 10) (by rw [Nat.pow_succ] at hu; omega)
        omega
  exact h 8 _ (by omega)
theorem repeat48 (c : Nat) : repeatL [48] c = List.replicate c 48 := by
  induction c with
  | zero => rfl
  | succ c ih => simp [repeatL, List.replicate_succ, ih]
set_option maxHeartbeats 1000000 in
theorem wtext.zero (A0 : Option Addr) (c0 : Nat) (l0 : List Int) (a1 : Bool) (w : World) (h : l0 = []) :
    Calls Tryz.prog 196 #[.agg #[.slice A0 l0.length c0, .bool a1]] w fun e w' => e = .returned (.string ⟨#[48]⟩) ∧ Below w.heap.size w w' := by
  subst h
  go_enter Tryz.func196, Tryz.ntmps196
  go_wp2
  go_ret
  exact ⟨rfl, (Below.refl _ w).alloc (Nat.le_refl _) _⟩
theorem chunk_len (l0 : List Int) (hp : ∀ x ∈ l0, 0 ≤ x ∧ x < 1000000000) (i : Fin l0.length) : (chunk l0 i).length ≤ 9 := by
  have hm : l0.getD i.1 0 ∈ l0 := by simp [List.getD, List.getElem?_eq_getElem i.2]
  have := dec9 _ (hp _ hm).1 (hp _ hm).2
  unfold chunk
  split
  · rw [List.length_append, List.length_replicate]; omega
  · exact this
theorem chunks_len (l0 : List Int) (hp : ∀ x ∈ l0, 0 ≤ x ∧ x < 1000000000) (pre : List (Fin l0.length)) : (pre.flatMap (chunk l0)).length ≤ 9 * pre.length := by
  induction pre with
  | nil => simp
  | cons x r ih =>
    rw [List.flatMap_cons, List.length_append, List.length_cons]
    have := chunk_len l0 hp x
    omega
theorem keeps_of {W W2 W3 : World} {e : TypeId} {b : Nat} {c : Array Value} {t : TypeId} {fz : Nat × Nat} (hb : Below W.heap.size W W2) (hk : OthersKept e (some b) W2 W3) (hbc : W2.heap[b]? = some (.cells c t fz)) (hs : W2.heap.size ≤ W3.heap.size) : KeepsOthers W W3 :=
  ⟨Nat.le_trans hb.size hs, fun k o ho hc => hk k o ((hb.block k (Array.getElem?_eq_some_iff.1 ho).1).trans ho) (fun e => by
      cases e
      have h1 := (hb.block b (Array.getElem?_eq_some_iff.1 ho).1).trans ho
      rw [hbc] at h1
      cases h1
      cases hc) (fun c' fz' e => by subst e; cases hc)⟩
set_option maxHeartbeats 4000000 in
set_option maxRecDepth 100000 in
theorem wtext.some_false (A0 : Option Addr) (c0 : Nat) (l0 : List Int) (w : World) (hr0 : Kd.C (Kd.int .u64) w A0 l0.length l0) (hG : GL w) (hne : l0 ≠ []) (hp : ∀ x ∈ l0, 0 ≤ x ∧ x < 1000000000) (hl : l0.length ≤ 1000000) :
    Calls Tryz.prog 196 #[.agg #[.slice A0 l0.length c0, .bool false]] w fun e w' => e = .returned (.string ⟨([] ++ (bk l0.length l0.length).flatMap (chunk l0)).toArray⟩) ∧ Below w.heap.size w w' := by
  have HR0 := Aside0.mk hr0
  have HP := Aside0.mk hp
  have HG := Aside0.mk hG
  clear hr0 hp hG
  have hpos : 0 < l0.length := List.length_pos_iff.mpr hne
  have h0 : ((l0.length : Int) == 0) = false := beq_eq_false_iff_ne.mpr (by omega)
  clear hne
  refine (callsIn_wide (n := 6)).1 ?_
  have hro : Fence.wide.round = none := rfl
  refine callsIn_of_wp_marks Tryz.func196 rfl trivial ?_ hro
  simp only [Tryz.ntmps196, List.size_toArray, List.length_cons, List.length_nil, Nat.reduceAdd, Nat.reduceSub, Array.replicate_succ, Array.replicate_zero, List.push_toArray, List.append_toArray, List.nil_append, List.cons_append]
  gi_wp2_with (first
    | (refine ⟨trivial, ?_⟩; gi_at_call 228; refine (back_in Fence.wide _ trivial rfl _ _ _ _).mono ?_; rintro e w' ⟨rfl, rfl⟩))
  obtain ⟨W0, hW0⟩ : ∃ W0, W0 = (((w.alloc (.cells #[.slice A0 l0.length c0, .bool false] 176)).alloc (.cells #[.pointer none, .slice none 0 0] 230)).alloc (.cells #[.slice A0 l0.length c0] 174) : World) := ⟨_, rfl⟩
  have hsz : W0.heap.size = w.heap.size + 3 := by rw [hW0]; simp
  have hB0 : Below w.heap.size w W0 := by
    rw [hW0]
    exact (((Below.refl _ w).alloc (Nat.le_refl _) _).alloc (by simp) _).alloc (by simp; omega) _
  have b0 : W0.heap[w.heap.size]? = some (.cells #[.slice A0 l0.length c0, .bool false] 176 (0, 0)) := by
    rw [hW0, heap_alloc_old _ _ (by simp <;> omega), heap_alloc_old _ _ (by simp), heap_alloc_new]
  have bB0 : W0.heap[w.heap.size + 1]? = some (.cells #[.pointer none, .slice none 0 0] 230 (0, 0)) := by
    rw [hW0, heap_alloc_old _ _ (by simp <;> omega)]
    have := heap_alloc_new (w.alloc (.cells #[.slice A0 l0.length c0, .bool false] 176)) (.cells #[.pointer none, .slice none 0 0] 230)
    rwa [World.size_alloc] at this
  have bB : IsBuilderF 230 5 w.heap.size (w.heap.size + 1) (Lib.byteCells ([] ++ ([] : List (Fin l0.length)).flatMap (chunk l0))) W0 := .inl ⟨by omega, .slice none 0 0, bB0, World.ownsRowF_nil _ _ _ _, by simp [Value.ownBlock]⟩
  have b3 : Boxed W0 (w.heap.size + 1 + 1) 174 (.slice A0 l0.length c0) := by
    rw [hW0]
    have e := Boxed.new ((w.alloc (.cells #[.slice A0 l0.length c0, .bool false] 176)).alloc (.cells #[.pointer none, .slice none 0 0] 230)) 174 (.slice A0 l0.length c0)
    rw [show ((w.alloc (.cells #[.slice A0 l0.length c0, .bool false] 176)).alloc (.cells #[.pointer none, .slice none 0 0] 230)).heap.size = w.heap.size + 1 + 1 from by simp] at e
    exact e
  rw [← hW0]
  clear hW0
  refine wpIn_rangeFunc_ownG hro (by omega) (gf := 250) (lb := #[.pointer (some ⟨(w.heap.size + 1 + 1), 0, none⟩)]) rfl trivial (enters_of Tryz.func250 (by kernel_rfl) rfl)
    (back_stops Fence.wide 5 trivial hro (by omega) (w.heap.size + 1 + 1) w.heap.size A0 c0 l0 w W0 rfl HR0.out hB0 b3) Kb.t (Kb.b (by omega) (by omega)) (Below.refl _ _) (fun _ => rfl)
    (fun pre W => ((W.heap[w.heap.size]? = some (.cells #[.slice A0 l0.length c0, .bool false] 176 (0, 0)) ∧ Boxed W (w.heap.size + 1 + 1) 174 (.slice A0 l0.length c0)) ∧ IsBuilderF 230 5 w.heap.size (w.heap.size + 1) (Lib.byteCells ([] ++ pre.flatMap (chunk l0))) W) ∧ Below w.heap.size w W)
    (fun _ _ _ => False)
    ?hI (fun _ _ _ _ _ hs _ _ => hs) ⟨⟨⟨b0, b3⟩, bB⟩, hB0⟩
    (fun x => { tmps := #[.agg #[.slice A0 l0.length c0, .bool false], .pointer (some ⟨w.heap.size, 0, none⟩), .string ⟨#[]⟩, .pointer (some ⟨w.heap.size + 1, 0, none⟩), (.int .i64 ((x.1 : Nat) : Int)), (.int .u64 (l0.getD x.1 0)), undef, .pointer (some ⟨w.heap.size, 0, none⟩), .slice A0 l0.length c0, .int .i64 (l0.length : Int), .bool false, .pointer (some ⟨w.heap.size, 1, none⟩), .bool false, undef, .pointer (some ⟨w.heap.size, 0, none⟩), .slice A0 l0.length c0, .func (.func 250) #[] #[.pointer (some ⟨(w.heap.size + 1 + 1), 0, none⟩)], (.int .i64 ((x.1 : Nat) : Int)), (.int .u64 (l0.getD x.1 0)), undef, undef, undef, undef, undef, undef, undef, undef, undef, undef, undef, undef, undef, undef, undef, undef, undef], defers := [] }) ?assign ?body ?done ?stop
  case hI =>
    intro s W W' row hs hg hr
    refine ⟨⟨⟨blk_kept hs.1.1.1 hg (fun r e => (hr r e).2), boxed_own _ _ (fun _ : Unit => _) () W W' row hs.1.1.2 hg (fun r e => (hr r e).2)⟩, bf_keep hs.1.2 (fun k o hk hc => (hg.block k (Array.getElem?_eq_some_iff.1 hk).1 (fun e => ?_)).trans hk)⟩, ownFrom_below (Nat.le_refl _) (by omega) () W W' row hs.2 hg hr⟩
    obtain ⟨_, o', ho', hc'⟩ := hr k e.symm
    rw [hk] at ho'
    cases ho'
    rw [hc] at hc'
    cases hc'
  case assign =>
    intro l x W K hK
    generalize l0.getD x.1 0 = v at *
    generalize x.1 = j at *
    gi_wp2
    exact hK
  case body =>
    rintro l pre x W ⟨⟨⟨h1, h2⟩, h3⟩, hB⟩ hpl
    have hm : l0.getD x.1 0 ∈ l0 := by simp [List.getD, List.getElem?_eq_getElem x.2]
    have hpx := HP.out _ hm
    obtain ⟨u, hu⟩ : ∃ u : Nat, u = (l0.getD x.1 0).toNat := ⟨_, rfl⟩
    have hux : l0.getD x.1 0 = (u : Int) := by omega
    have hu9 : u < 1000000000 := by omega
    have hd9 : (decDigits u).length ≤ 9 := by rw [hu]; exact dec9 _ hpx.1 hpx.2
    have hGW : GL W := HG.out.below hB
    have hcl := chunks_len l0 HP.out pre
    have hchunk : chunk l0 x = if x.1 < l0.length - 1 then List.replicate (9 - (decDigits u).length) 48 ++ decDigits u else decDigits u := by unfold chunk; rw [← hu]
    have HCH := Aside0.mk hchunk
    obtain ⟨j, hj⟩ : ∃ j : Nat, j = x.1 := ⟨_, rfl⟩
    have hjl : j < l0.length := by rw [hj]; exact x.2
    rw [hux, ← hj]
    rw [← hj] at hchunk
    have HC2 := Aside0.mk hchunk
    clear hm hpx hu hux hchunk hj
    have HF := Aside0.mk (fmtU u (by omega) W hGW)
    have hwr : IntKind.i64.wrap ((l0.length : Int) - 1) = (l0.length : Int) - 1 := by rw [IntKind.wrap_i64]; omega
    have hwlt := (Array.getElem?_eq_some_iff.1 h1).1
    by_cases hjn : j < l0.length - 1
    · have d1 : decide ((j : Int) < (l0.length : Int) - 1) = true := decide_eq_true (by omega)
      have d2 : ((j : Int) < (l0.length : Int) - 1) := by omega
      have HC3 := Aside0.mk (HC2.out.trans (if_pos hjn))
      have HRep := Aside0.mk (fun (V : World) => show Calls Tryz.prog 230 #[.string ⟨#[48]⟩, .int .i64 (9 - ((decDigits u).length : Int))] V (fun e w' => e = .returned (.string ⟨(List.replicate (9 - (decDigits u).length) 48).toArray⟩) ∧ Below V.heap.size V w') from by
        have h := Tryz.strings_Repeat ⟨#[48]⟩ (9 - (decDigits u).length) V (by omega) (by show 1 * _ ≤ _; omega)
        rw [show ((9 - (decDigits u).length : Nat) : Int) = 9 - ((decDigits u).length : Int) by omega, show (⟨#[48]⟩ : ByteArray).data.toList = [48] from rfl, repeat48] at h
        exact h)
      gi_wp2_with (first | (refine ⟨trivial, ?_⟩; gi_at_call 229; refine (CallsIn.inRound l (callsIn_wide.2 HF.out)).mono ?_; rintro e W1 ⟨rfl, hb1⟩; have q1 : W1.heap[w.heap.size]? = some (.cells #[.slice A0 l0.length c0, .bool false] 176 (0, 0)) := (hb1.block _ hwlt).trans h1; have g1 : W1.cell? ⟨w.heap.size, 0, none⟩ = some (.slice A0 l0.length c0) := by rw [Lib.cell_of_heap q1]; rfl) | (refine ⟨trivial, ?_⟩; gi_at_call 230; refine (CallsIn.inRound l (callsIn_wide.2 (HRep.out _))).mono ?_; rintro e W2 ⟨rfl, hb2⟩))
      have hW2 : Below W.heap.size W W2 := hb1.trans (hb2.mono hb1.size)
      have hs : ({ data := Array.replicate (9 - (decDigits u).length) 48 } ++ { data := (decDigits u).toArray } : ByteArray) = ⟨(chunk l0 x).toArray⟩ := by
        rw [HC3.out]
        apply ByteArray.ext
        simp
      rw [hs]
      have hbf := bf_below h3 hW2
      have hbk : ∃ c, W2.heap[w.heap.size + 1]? = some (.cells c 230 (0, 0)) := by
        rcases hbf with ⟨_, v, hb, _⟩ | ⟨_, v, hb, _⟩
        · exact ⟨_, hb⟩
        · exact ⟨_, hb⟩
      obtain ⟨cb, hbk⟩ := hbk
      have hch := chunk_len l0 HP.out x
      refine ⟨trivial, ?_⟩
      refine (CallsIn.inRound l (callsIn_wide.2 (writeString_k w.heap.size (w.heap.size + 1) _ _ W2 hbf (by rw [Lib.byteCells_length, List.length_append]; show _ + (chunk l0 x).toArray.size ≤ _; rw [List.size_toArray]; simp only [List.length_cons, List.length_nil]; omega) (Nat.le_trans hB.size hW2.size)))).mono ?_
      rintro e W3 ⟨rfl, h4, hb4, hk4⟩
      have hb5 : Below w.heap.size W W3 := (hW2.mono hB.size).trans hb4
      have k1 : W3.heap[w.heap.size]? = some (.cells #[.slice A0 l0.length c0, .bool false] 176 (0, 0)) := hk4 _ _ ((hW2.block _ hwlt).trans h1) (fun e => by have := Option.some.inj e; omega) (fun c fz e => by cases e)
      have k2 : W3.heap[(w.heap.size + 1 + 1)]? = some (.cells #[.slice A0 l0.length c0] 174 (0, 0)) := hk4 _ _ ((hW2.block _ h2.lt).trans h2) (fun e => by have := Option.some.inj e; omega) (fun c fz e => by cases e)
      have hbytes : Lib.byteCells ([] ++ (pre ++ [x]).flatMap (chunk l0)) = Lib.byteCells ([] ++ pre.flatMap (chunk l0)) ++ strCells ⟨(chunk l0 x).toArray⟩ := by
        rw [List.flatMap_append, ← List.append_assoc, Lib.byteCells_append]
        first | done | simp [strCells, Lib.byteCells]
      gi_wp2
      refine ⟨(keeps_of hW2 hk4 hbk hb4.size).from _, ⟨hb5, k2.trans h2.symm⟩, ⟨⟨⟨k1, k2⟩, ?_⟩, hB.trans hb5⟩⟩
      rw [hbytes]
      exact .inr h4
    · have d1 : decide ((j : Int) < (l0.length : Int) - 1) = false := decide_eq_false (by omega)
      have HC3 := Aside0.mk (HC2.out.trans (if_neg hjn))
      gi_wp2_with (first | (refine ⟨trivial, ?_⟩; gi_at_call 229; refine (CallsIn.inRound l (callsIn_wide.2 HF.out)).mono ?_; rintro e W1 ⟨rfl, hb1⟩; have q1 : W1.heap[w.heap.size]? = some (.cells #[.slice A0 l0.length c0, .bool false] 176 (0, 0)) := (hb1.block _ hwlt).trans h1; have g1 : W1.cell? ⟨w.heap.size, 0, none⟩ = some (.slice A0 l0.length c0) := by rw [Lib.cell_of_heap q1]; rfl))
      have hW2 : Below W.heap.size W W1 := hb1
      have hs : ({ data := (decDigits u).toArray } : ByteArray) = ⟨(chunk l0 x).toArray⟩ := by
        rw [HC3.out]
      rw [hs]
      have hbf := bf_below h3 hW2
      have hbk : ∃ c, W1.heap[w.heap.size + 1]? = some (.cells c 230 (0, 0)) := by
        rcases hbf with ⟨_, v, hb, _⟩ | ⟨_, v, hb, _⟩
        · exact ⟨_, hb⟩
        · exact ⟨_, hb⟩
      obtain ⟨cb, hbk⟩ := hbk
      have hch := chunk_len l0 HP.out x
      refine ⟨trivial, ?_⟩
      refine (CallsIn.inRound l (callsIn_wide.2 (writeString_k w.heap.size (w.heap.size + 1) _ _ W1 hbf (by rw [Lib.byteCells_length, List.length_append]; show _ + (chunk l0 x).toArray.size ≤ _; rw [List.size_toArray]; simp only [List.length_cons, List.length_nil]; omega) (Nat.le_trans hB.size hW2.size)))).mono ?_
      rintro e W3 ⟨rfl, h4, hb4, hk4⟩
      have hb5 : Below w.heap.size W W3 := (hW2.mono hB.size).trans hb4
      have k1 : W3.heap[w.heap.size]? = some (.cells #[.slice A0 l0.length c0, .bool false] 176 (0, 0)) := hk4 _ _ ((hW2.block _ hwlt).trans h1) (fun e => by have := Option.some.inj e; omega) (fun c fz e => by cases e)
      have k2 : W3.heap[(w.heap.size + 1 + 1)]? = some (.cells #[.slice A0 l0.length c0] 174 (0, 0)) := hk4 _ _ ((hW2.block _ h2.lt).trans h2) (fun e => by have := Option.some.inj e; omega) (fun c fz e => by cases e)
      have hbytes : Lib.byteCells ([] ++ (pre ++ [x]).flatMap (chunk l0)) = Lib.byteCells ([] ++ pre.flatMap (chunk l0)) ++ strCells ⟨(chunk l0 x).toArray⟩ := by
        rw [List.flatMap_append, ← List.append_assoc, Lib.byteCells_append]
        first | done | simp [strCells, Lib.byteCells]
      gi_wp2
      refine ⟨(keeps_of hW2 hk4 hbk hb4.size).from _, ⟨hb5, k2.trans h2.symm⟩, ⟨⟨⟨k1, k2⟩, ?_⟩, hB.trans hb5⟩⟩
      rw [hbytes]
      exact .inr h4
  case done =>
    rintro D ys W hD rfl ⟨⟨⟨h1, h2⟩, h3⟩, hB⟩ hK
    have HS := Aside0.mk (Tryz.Builder_String_any_k w.heap.size (w.heap.size + 1) _ W h3 hB.size)
    gi_wp2_with (refine ⟨trivial, ?_⟩; gi_at_call 231; refine (callsIn_wide.2 HS.out).mono ?_; rintro e W4 ⟨rfl, _, hb4, hk4⟩)
    have hbk : ∃ c, W.heap[w.heap.size + 1]? = some (.cells c 230 (0, 0)) := by
      rcases h3 with ⟨_, v, hb, _⟩ | ⟨_, v, hb, _⟩
      · exact ⟨_, hb⟩
      · exact ⟨_, hb⟩
    obtain ⟨cb, hbk⟩ := hbk
    have hK4 : W4.heap[D]? = some (.deferred (some [])) := hk4 _ _ hK (fun e => by have e1 := Option.some.inj e; rw [e1, hbk] at hK; cases hK) (fun c fz e => by cases e)
    refine ⟨by simp, .inl ⟨_, _, rfl, run_takeDeferred hK4, ?_⟩⟩
    exact ⟨_, by simp [results, Tryz.f196, go_sem], rfl, (hB.trans hb4).trans (belowK_b (w := w) (Nat.le_refl _) W4 D _ _ (by omega) hK4 rfl rfl)⟩
  case stop =>
    rintro D c pre W _ _ h _
    exact h.elim
set_option maxHeartbeats 4000000 in
set_option maxRecDepth 100000 in
theorem wtext.some_true (A0 : Option Addr) (c0 : Nat) (l0 : List Int) (w : World) (hr0 : Kd.C (Kd.int .u64) w A0 l0.length l0) (hG : GL w) (hne : l0 ≠ []) (hp : ∀ x ∈ l0, 0 ≤ x ∧ x < 1000000000) (hl : l0.length ≤ 1000000) :
    Calls Tryz.prog 196 #[.agg #[.slice A0 l0.length c0, .bool true]] w fun e w' => e = .returned (.string ⟨([45] ++ (bk l0.length l0.length).flatMap (chunk l0)).toArray⟩) ∧ Below w.heap.size w w' := by
  have HR0 := Aside0.mk hr0
  have HP := Aside0.mk hp
  have HG := Aside0.mk hG
  clear hr0 hp hG
  have hpos : 0 < l0.length := List.length_pos_iff.mpr hne
  have h0 : ((l0.length : Int) == 0) = false := beq_eq_false_iff_ne.mpr (by omega)
  clear hne
  refine (callsIn_wide (n := 6)).1 ?_
  have hro : Fence.wide.round = none := rfl
  refine callsIn_of_wp_marks Tryz.func196 rfl trivial ?_ hro
  simp only [Tryz.ntmps196, List.size_toArray, List.length_cons, List.length_nil, Nat.reduceAdd, Nat.reduceSub, Array.replicate_succ, Array.replicate_zero, List.push_toArray, List.append_toArray, List.nil_append, List.cons_append]
  obtain ⟨V0, hV0⟩ : ∃ V0, V0 = ((w.alloc (.cells #[.slice A0 l0.length c0, .bool true] 176)).alloc (.cells #[.pointer none, .slice none 0 0] 230) : World) := ⟨_, rfl⟩
  have hsz : V0.heap.size = w.heap.size + 2 := by rw [hV0]; simp
  have hB0 : Below w.heap.size w V0 := by
    rw [hV0]
    exact ((Below.refl _ w).alloc (Nat.le_refl _) _).alloc (by simp) _
  have v0 : V0.heap[w.heap.size]? = some (.cells #[.slice A0 l0.length c0, .bool true] 176 (0, 0)) := by
    rw [hV0, heap_alloc_old _ _ (by simp), heap_alloc_new]
  have vB0 : V0.heap[w.heap.size + 1]? = some (.cells #[.pointer none, .slice none 0 0] 230 (0, 0)) := by
    rw [hV0]
    have := heap_alloc_new (w.alloc (.cells #[.slice A0 l0.length c0, .bool true] 176)) (.cells #[.pointer none, .slice none 0 0] 230)
    rwa [World.size_alloc] at this
  have vB : IsBuilderF 230 5 w.heap.size (w.heap.size + 1) [] V0 := .inl ⟨by omega, .slice none 0 0, vB0, World.ownsRowF_nil _ _ _ _, by simp [Value.ownBlock]⟩
  have HW := Aside0.mk (writeString_k w.heap.size (w.heap.size + 1) [] ⟨#[45]⟩ V0 vB (by decide) (by omega))
  rw [hV0] at HW
  gi_wp2_with (first
    | (refine ⟨trivial, ?_⟩; gi_at_call 227; refine (callsIn_wide.2 HW.out).mono ?_; rintro e V1 ⟨rfl, h4, hb4, hk4⟩; have q1 : V1.heap[w.heap.size]? = some (.cells #[.slice A0 l0.length c0, .bool true] 176 (0, 0)) := hk4 _ _ (hV0 ▸ v0) (fun e => by have := Option.some.inj e; omega) (fun c fz e => by cases e); have g1 : V1.cell? ⟨w.heap.size, 0, none⟩ = some (.slice A0 l0.length c0) := by rw [Lib.cell_of_heap q1]; rfl)
    | (refine ⟨trivial, ?_⟩; gi_at_call 228; refine (back_in Fence.wide _ trivial rfl _ _ _ _).mono ?_; rintro e w' ⟨rfl, rfl⟩))
  rw [← hV0] at hb4 hk4
  have hV1 : w.heap.size + 2 ≤ V1.heap.size := by have := hb4.size; omega
  obtain ⟨W0, hW0⟩ : ∃ W0, W0 = (V1.alloc (.cells #[.slice A0 l0.length c0] 174) : World) := ⟨_, rfl⟩
  obtain ⟨Q, hQ⟩ : ∃ Q, Q = V1.heap.size := ⟨_, rfl⟩
  have hsz0 : W0.heap.size = Q + 1 := by rw [hW0, hQ]; simp
  have hB1 : Below w.heap.size w W0 := by
    rw [hW0]
    exact (hB0.trans hb4).alloc (by omega) _
  have b0 : W0.heap[w.heap.size]? = some (.cells #[.slice A0 l0.length c0, .bool true] 176 (0, 0)) := by
    rw [hW0, heap_alloc_old _ _ (by omega)]
    exact q1
  have bB : IsBuilderF 230 5 w.heap.size (w.heap.size + 1) (Lib.byteCells ([45] ++ ([] : List (Fin l0.length)).flatMap (chunk l0))) W0 := by
    rw [hW0]
    exact IsBuilderF.alloc (.inr h4) _
  have b3 : Boxed W0 Q 174 (.slice A0 l0.length c0) := by
    rw [hW0, hQ]
    exact Boxed.new _ _ _
  rw [← hW0]
  rw [← hQ] at hV1 ⊢
  clear hW0 hB0 hsz hQ
  have hB0 := hB1
  have hsz : W0.heap.size = Q + 1 := hsz0
  refine wpIn_rangeFunc_ownG hro (by omega) (gf := 250) (lb := #[.pointer (some ⟨Q, 0, none⟩)]) rfl trivial (enters_of Tryz.func250 (by kernel_rfl) rfl)
    (back_stops Fence.wide 5 trivial hro (by omega) Q w.heap.size A0 c0 l0 w W0 rfl HR0.out hB0 b3) Kb.t (Kb.b (by omega) (by omega)) (Below.refl _ _) (fun _ => rfl)
    (fun pre W => ((W.heap[w.heap.size]? = some (.cells #[.slice A0 l0.length c0, .bool true] 176 (0, 0)) ∧ Boxed W Q 174 (.slice A0 l0.length c0)) ∧ IsBuilderF 230 5 w.heap.size (w.heap.size + 1) (Lib.byteCells ([45] ++ pre.flatMap (chunk l0))) W) ∧ Below w.heap.size w W)
    (fun _ _ _ => False)
    ?hI (fun _ _ _ _ _ hs _ _ => hs) ⟨⟨⟨b0, b3⟩, bB⟩, hB0⟩
    (fun x => { tmps := #[.agg #[.slice A0 l0.length c0, .bool true], .pointer (some ⟨w.heap.size, 0, none⟩), .string ⟨#[]⟩, .pointer (some ⟨w.heap.size + 1, 0, none⟩), (.int .i64 ((x.1 : Nat) : Int)), (.int .u64 (l0.getD x.1 0)), undef, .pointer (some ⟨w.heap.size, 0, none⟩), .slice A0 l0.length c0, .int .i64 (l0.length : Int), .bool false, .pointer (some ⟨w.heap.size, 1, none⟩), .bool true, .tuple #[.int .i64 1, .nilIface], .pointer (some ⟨w.heap.size, 0, none⟩), .slice A0 l0.length c0, .func (.func 250) #[] #[.pointer (some ⟨Q, 0, none⟩)], (.int .i64 ((x.1 : Nat) : Int)), (.int .u64 (l0.getD x.1 0)), undef, undef, undef, undef, undef, undef, undef, undef, undef, undef, undef, undef, undef, undef, undef, undef, undef], defers := [] }) ?assign ?body ?done ?stop
  case hI =>
    intro s W W' row hs hg hr
    refine ⟨⟨⟨blk_kept hs.1.1.1 hg (fun r e => (hr r e).2), boxed_own _ _ (fun _ : Unit => _) () W W' row hs.1.1.2 hg (fun r e => (hr r e).2)⟩, bf_keep hs.1.2 (fun k o hk hc => (hg.block k (Array.getElem?_eq_some_iff.1 hk).1 (fun e => ?_)).trans hk)⟩, ownFrom_below (Nat.le_refl _) (by omega) () W W' row hs.2 hg hr⟩
    obtain ⟨_, o', ho', hc'⟩ := hr k e.symm
    rw [hk] at ho'
    cases ho'
    rw [hc] at hc'
    cases hc'
  case assign =>
    intro l x W K hK
    generalize l0.getD x.1 0 = v at *
    generalize x.1 = j at *
    gi_wp2
    exact hK
  case body =>
    rintro l pre x W ⟨⟨⟨h1, h2⟩, h3⟩, hB⟩ hpl
    have hm : l0.getD x.1 0 ∈ l0 := by simp [List.getD, List.getElem?_eq_getElem x.2]
    have hpx := HP.out _ hm
    obtain ⟨u, hu⟩ : ∃ u : Nat, u = (l0.getD x.1 0).toNat := ⟨_, rfl⟩
    have hux : l0.getD x.1 0 = (u : Int) := by omega
    have hu9 : u < 1000000000 := by omega
    have hd9 : (decDigits u).length ≤ 9 := by rw [hu]; exact dec9 _ hpx.1 hpx.2
    have hGW : GL W := HG.out.below hB
    have hcl := chunks_len l0 HP.out pre
    have hchunk : chunk l0 x = if x.1 < l0.length - 1 then List.replicate (9 - (decDigits u).length) 48 ++ decDigits u else decDigits u := by unfold chunk; rw [← hu]
    have HCH := Aside0.mk hchunk
    obtain ⟨j, hj⟩ : ∃ j : Nat, j = x.1 := ⟨_, rfl⟩
    have hjl : j < l0.length := by rw [hj]; exact x.2
    rw [hux, ← hj]
    rw [← hj] at hchunk
    have HC2 := Aside0.mk hchunk
    clear hm hpx hu hux hchunk hj
    have HF := Aside0.mk (fmtU u (by omega) W hGW)
    have hwr : IntKind.i64.wrap ((l0.length : Int) - 1) = (l0.length : Int) - 1 := by rw [IntKind.wrap_i64]; omega
    have hwlt := (Array.getElem?_eq_some_iff.1 h1).1
    by_cases hjn : j < l0.length - 1
    · have d1 : decide ((j : Int) < (l0.length : Int) - 1) = true := decide_eq_true (by omega)
      have d2 : ((j : Int) < (l0.length : Int) - 1) := by omega
      have HC3 := Aside0.mk (HC2.out.trans (if_pos hjn))
      have HRep := Aside0.mk (fun (V : World) => show Calls Tryz.prog 230 #[.string ⟨#[48]⟩, .int .i64 (9 - ((decDigits u).length : Int))] V (fun e w' => e = .returned (.string ⟨(List.replicate (9 - (decDigits u).length) 48).toArray⟩) ∧ Below V.heap.size V w') from by
        have h := Tryz.strings_Repeat ⟨#[48]⟩ (9 - (decDigits u).length) V (by omega) (by show 1 * _ ≤ _; omega)
        rw [show ((9 - (decDigits u).length : Nat) : Int) = 9 - ((decDigits u).length : Int) by omega, show (⟨#[48]⟩ : ByteArray).data.toList = [48] from rfl, repeat48] at h
        exact h)
      gi_wp2_with (first | (refine ⟨trivial, ?_⟩; gi_at_call 229; refine (CallsIn.inRound l (callsIn_wide.2 HF.out)).mono ?_; rintro e W1 ⟨rfl, hb1⟩; have q1 : W1.heap[w.heap.size]? = some (.cells #[.slice A0 l0.length c0, .bool true] 176 (0, 0)) := (hb1.block _ hwlt).trans h1; have g1 : W1.cell? ⟨w.heap.size, 0, none⟩ = some (.slice A0 l0.length c0) := by rw [Lib.cell_of_heap q1]; rfl) | (refine ⟨trivial, ?_⟩; gi_at_call 230; refine (CallsIn.inRound l (callsIn_wide.2 (HRep.out _))).mono ?_; rintro e W2 ⟨rfl, hb2⟩))
      have hW2 : Below W.heap.size W W2 := hb1.trans (hb2.mono hb1.size)
      have hs : ({ data := Array.replicate (9 - (decDigits u).length) 48 } ++ { data := (decDigits u).toArray } : ByteArray) = ⟨(chunk l0 x).toArray⟩ := by
        rw [HC3.out]
        apply ByteArray.ext
        simp
      rw [hs]
      have hbf := bf_below h3 hW2
      have hbk : ∃ c, W2.heap[w.heap.size + 1]? = some (.cells c 230 (0, 0)) := by
        rcases hbf with ⟨_, v, hb, _⟩ | ⟨_, v, hb, _⟩
        · exact ⟨_, hb⟩
        · exact ⟨_, hb⟩
      obtain ⟨cb, hbk⟩ := hbk
      have hch := chunk_len l0 HP.out x
      refine ⟨trivial, ?_⟩
      refine (CallsIn.inRound l (callsIn_wide.2 (writeString_k w.heap.size (w.heap.size + 1) _ _ W2 hbf (by rw [Lib.byteCells_length, List.length_append]; show _ + (chunk l0 x).toArray.size ≤ _; rw [List.size_toArray]; simp only [List.length_cons, List.length_nil]; omega) (Nat.le_trans hB.size hW2.size)))).mono ?_
      rintro e W3 ⟨rfl, h4, hb4, hk4⟩
      have hb5 : Below w.heap.size W W3 := (hW2.mono hB.size).trans hb4
      have k1 : W3.heap[w.heap.size]? = some (.cells #[.slice A0 l0.length c0, .bool true] 176 (0, 0)) := hk4 _ _ ((hW2.block _ hwlt).trans h1) (fun e => by have := Option.some.inj e; omega) (fun c fz e => by cases e)
      have k2 : W3.heap[Q]? = some (.cells #[.slice A0 l0.length c0] 174 (0, 0)) := hk4 _ _ ((hW2.block _ h2.lt).trans h2) (fun e => by have := Option.some.inj e; omega) (fun c fz e => by cases e)
      have hbytes : Lib.byteCells ([45] ++ (pre ++ [x]).flatMap (chunk l0)) = Lib.byteCells ([45] ++ pre.flatMap (chunk l0)) ++ strCells ⟨(chunk l0 x).toArray⟩ := by
        rw [List.flatMap_append, ← List.append_assoc, Lib.byteCells_append]
        first | done | simp [strCells, Lib.byteCells]
      gi_wp2
      refine ⟨(keeps_of hW2 hk4 hbk hb4.size).from _, ⟨hb5, k2.trans h2.symm⟩, ⟨⟨⟨k1, k2⟩, ?_⟩, hB.trans hb5⟩⟩
      rw [hbytes]
      exact .inr h4
    · have d1 : decide ((j : Int) < (l0.length : Int) - 1) = false := decide_eq_false (by omega)
      have HC3 := Aside0.mk (HC2.out.trans (if_neg hjn))
      gi_wp2_with (first | (refine ⟨trivial, ?_⟩; gi_at_call 229; refine (CallsIn.inRound l (callsIn_wide.2 HF.out)).mono ?_; rintro e W1 ⟨rfl, hb1⟩; have q1 : W1.heap[w.heap.size]? = some (.cells #[.slice A0 l0.length c0, .bool true] 176 (0, 0)) := (hb1.block _ hwlt).trans h1; have g1 : W1.cell? ⟨w.heap.size, 0, none⟩ = some (.slice A0 l0.length c0) := by rw [Lib.cell_of_heap q1]; rfl))
      have hW2 : Below W.heap.size W W1 := hb1
      have hs : ({ data := (decDigits u).toArray } : ByteArray) = ⟨(chunk l0 x).toArray⟩ := by
        rw [HC3.out]
      rw [hs]
      have hbf := bf_below h3 hW2
      have hbk : ∃ c, W1.heap[w.heap.size + 1]? = some (.cells c 230 (0, 0)) := by
        rcases hbf with ⟨_, v, hb, _⟩ | ⟨_, v, hb, _⟩
        · exact ⟨_, hb⟩
        · exact ⟨_, hb⟩
      obtain ⟨cb, hbk⟩ := hbk
      have hch := chunk_len l0 HP.out x
      refine ⟨trivial, ?_⟩
      refine (CallsIn.inRound l (callsIn_wide.2 (writeString_k w.heap.size (w.heap.size + 1) _ _ W1 hbf (by rw [Lib.byteCells_length, List.length_append]; show _ + (chunk l0 x).toArray.size ≤ _; rw [List.size_toArray]; simp only [List.length_cons, List.length_nil]; omega) (Nat.le_trans hB.size hW2.size)))).mono ?_
      rintro e W3 ⟨rfl, h4, hb4, hk4⟩
      have hb5 : Below w.heap.size W W3 := (hW2.mono hB.size).trans hb4
      have k1 : W3.heap[w.heap.size]? = some (.cells #[.slice A0 l0.length c0, .bool true] 176 (0, 0)) := hk4 _ _ ((hW2.block _ hwlt).trans h1) (fun e => by have := Option.some.inj e; omega) (fun c fz e => by cases e)
      have k2 : W3.heap[Q]? = some (.cells #[.slice A0 l0.length c0] 174 (0, 0)) := hk4 _ _ ((hW2.block _ h2.lt).trans h2) (fun e => by have := Option.some.inj e; omega) (fun c fz e => by cases e)
      have hbytes : Lib.byteCells ([45] ++ (pre ++ [x]).flatMap (chunk l0)) = Lib.byteCells ([45] ++ pre.flatMap (chunk l0)) ++ strCells ⟨(chunk l0 x).toArray⟩ := by
        rw [List.flatMap_append, ← List.append_assoc, Lib.byteCells_append]
        first | done | simp [strCells, Lib.byteCells]
      gi_wp2
      refine ⟨(keeps_of hW2 hk4 hbk hb4.size).from _, ⟨hb5, k2.trans h2.symm⟩, ⟨⟨⟨k1, k2⟩, ?_⟩, hB.trans hb5⟩⟩
      rw [hbytes]
      exact .inr h4
  case done =>
    rintro D ys W hD rfl ⟨⟨⟨h1, h2⟩, h3⟩, hB⟩ hK
    have HS := Aside0.mk (Tryz.Builder_String_any_k w.heap.size (w.heap.size + 1) _ W h3 hB.size)
    gi_wp2_with (refine ⟨trivial, ?_⟩; gi_at_call 231; refine (callsIn_wide.2 HS.out).mono ?_; rintro e W4 ⟨rfl, _, hb4, hk4⟩)
    have hbk : ∃ c, W.heap[w.heap.size + 1]? = some (.cells c 230 (0, 0)) := by
      rcases h3 with ⟨_, v, hb, _⟩ | ⟨_, v, hb, _⟩
      · exact ⟨_, hb⟩
      · exact ⟨_, hb⟩
    obtain ⟨cb, hbk⟩ := hbk
    have hK4 : W4.heap[D]? = some (.deferred (some [])) := hk4 _ _ hK (fun e => by have e1 := Option.some.inj e; rw [e1, hbk] at hK; cases hK) (fun c fz e => by cases e)
    refine ⟨by simp, .inl ⟨_, _, rfl, run_takeDeferred hK4, ?_⟩⟩
    exact ⟨_, by simp [results, Tryz.f196, go_sem], rfl, (hB.trans hb4).trans (belowK_b (w := w) (Nat.le_refl _) W4 D _ _ (by omega) hK4 rfl rfl)⟩
  case stop =>
    rintro D c pre W _ _ h _
    exact h.elim
theorem wtext.calls (A0 : Option Addr) (c0 : Nat) (l0 : List Int) (a1 : Bool) (r : ByteArray) (w : World) (hr0 : Kd.C (Kd.int .u64) w A0 l0.length l0) (hc0 : l0.length ≤ c0) (hG : GL w) (h : wtext.f l0 a1 = some r) :
    Calls Tryz.prog 196 #[.agg #[.slice A0 l0.length c0, .bool a1]] w fun e w' => e = .returned (.string r) ∧ Below w.heap.size w w' := by
  unfold wtext.f at h
  by_cases h0 : l0 = []
  · rw [if_pos h0, Option.some.injEq] at h
    subst h
    exact wtext.zero A0 c0 l0 a1 w h0
  · rw [if_neg h0] at h
    split at h
    · rename_i hp
      simp only [Option.some.injEq] at h
      subst h
      cases a1 with
      | false => exact wtext.some_false A0 c0 l0 w hr0 hG h0 hp.1 hp.2
      | true => exact wtext.some_true A0 c0 l0 w hr0 hG h0 hp.1 hp.2
    · cases h
end Go.Proofs.YtkhgpnbhnipndaaGreatDoor.Hd
end
