/- What the law leans on, part 30: declarations of several texts of ours, in their order. -/
import Derived.Test.YtkhgpnbhnipndaaGreatDoorXFS28
section
/- Frames: whether a code may be, on; numbers as an array. -/
namespace Go.Proofs.YtkhgpnbhnipndaaGreatDoor.Am
open Go Go.RowKit Go.Proofs.YtkhgpnbhnipndaaGreatDoor.Sh
open Go.Proofs.YtkhgpnbhnipndaaGreatDoor.Nm (numS)
set_option linter.unusedVariables false
set_option linter.unusedSimpArgs false
set_option maxRecDepth 100000
set_option maxHeartbeats 8000000
def deepC (slots : Int) : List OpL → Int → Option Int
  | [], d => some d
  | o :: l, d => if needsZ slots o < 0 ∨ d < needsZ slots o then none else deepC slots l (d + (1 - needsZ slots o))
def foS : ByteArray := ⟨#[43, 42, 38, 124]⟩
def foldB (f : ByteArray) : Bool := decide (f = ByteArray.empty) || sgB foS f
def mayC (l : List OpL) (f : ByteArray) (slots : Int) : Bool := decide (1 ≤ l.length) && decide (l.length ≤ 200) && foldB f && decide (deepC slots l 0 = some 1)
theorem needs_le (slots : Int) (o : OpL) : -1 ≤ needsZ slots o ∧ needsZ slots o ≤ 2 := by
  unfold needsZ
  split
  · omega
  · split
    · omega
    · split <;> omega
theorem foldB_cases {f : ByteArray} (h : foldB f = true) : f = ByteArray.empty ∨ (f ≠ ByteArray.empty ∧ sgB foS f = true) := by
  unfold foldB at h
  rw [Bool.or_eq_true, decide_eq_true_eq] at h
  by_cases hf : f = ByteArray.empty
  · exact .inl hf
  · exact .inr ⟨hf, h.resolve_left hf⟩
theorem may_loop (l : List OpL) (f : ByteArray) (slots : Int) (hl : l.length ≤ 200) (h1 : 1 ≤ l.length) (hf : foldB f = true) : Runs Tryz.prog 16 [cD l f, iD slots] (bD (decide (deepC slots l 0 = some 1))) := by
  have t1 : decide (((l.length : Nat) : Int) < 1) = false := by rw [decide_eq_false_iff_not]; omega
  have t2 : decide (((l.length : Nat) : Int) > 200) = false := by rw [decide_eq_false_iff_not]; omega
  have t3 : (!(f.toList == ByteArray.toList ⟨#[]⟩)) = !decide (f = ByteArray.empty) := by rw [beqB]; rfl
  have s1 := fsign_runs f foS
  rcases foldB_cases hf with hfe | ⟨hfe, hs⟩
  focus
    rw [decide_eq_true hfe] at t3
    refine Runs.wp Am.hT Am.hm Tryz.func16 rfl (by decide) ⟨[], [0, 1, 2, 4, 5, 7, 8, 29, 31, 32, 33, 34, 46], 54⟩ ?_; ((conv => whnf); repeat (refine Gq ?_; (conv => whnf)))
    refine litE t1 ?_
    ((conv => whnf); repeat (refine Gq ?_; (conv => whnf)))
    refine litE t2 ?_
    ((conv => whnf); repeat (refine Gq ?_; (conv => whnf)))
    refine litE t3 ?_
    ((conv => whnf); repeat (refine Gq ?_; (conv => whnf)))
  rotate_left
  focus
    rw [decide_eq_false hfe] at t3
    rw [hs] at s1
    refine Runs.wp Am.hT Am.hm Tryz.func16 rfl (by decide) ⟨[], [0, 1, 2, 4, 5, 7, 8, 29, 31, 32, 33, 34, 46], 54⟩ ?_; ((conv => whnf); repeat (refine Gq ?_; (conv => whnf)))
    refine litE t1 ?_
    ((conv => whnf); repeat (refine Gq ?_; (conv => whnf)))
    refine litE t2 ?_
    ((conv => whnf); repeat (refine Gq ?_; (conv => whnf)))
    refine litE t3 ?_
    ((conv => whnf); repeat (refine Gq ?_; (conv => whnf)))
    ((conv => whnf); (refine HfA s1 ?_); ((conv => whnf); repeat (refine Gq ?_; (conv => whnf))))
  all_goals
    refine loop_ind (fun k (x : Nat × Int) => x.1 + k = l.length + 1 ∧ x.1 ≤ l.length ∧ 0 ≤ x.2 ∧ x.2 ≤ 2 * x.1 ∧ deepC slots l 0 = deepC slots (l.drop x.1) x.2) (fun x => { t := pin [(1, .d (iD slots)), (5, .d (iD x.2)), (31, .d (rO l)), (32, .d (iD l.length)), (33, .d (iD x.1))], N := 54, h := hpin [], n := 0, lo := 0 }) (fun i h => by omega) ?_ (l.length + 1) (0, 0) ⟨by simp, by simp, by simp, by simp, rfl⟩ _ ?_
    · rintro k ⟨i, d⟩ R ih ⟨hk, hi, hd, hd2, he⟩
      dsimp only at *
      by_cases hlt : i < l.length
      · have t4 : decide ((i : Int) < (l.length : Int)) = true := by simpa using hlt
        have hx : l[i]? = some l[i] := List.getElem?_eq_getElem hlt
        have nr := needs_runs slots l[i]
        have nb := needs_le slots l[i]
        rw [List.drop_eq_getElem_cons hlt, deepC] at he
        generalize needsZ slots l[i] = n at *
        by_cases h0 : n < 0
        · have t5 : decide (n < 0) = true := decide_eq_true h0
          rw [if_pos (.inl h0)] at he
          rw [he]
          ((conv => whnf); repeat (refine Gq ?_; (conv => whnf)))
          refine Lt t4 ?_
          ((conv => whnf); repeat (refine Gq ?_; (conv => whnf)))
          refine ⟨by omega, by omega, ?_⟩
          ((conv => whnf); repeat (refine Gq ?_; (conv => whnf)))
          refine fm_ld opC_len hx ?_
          ((conv => whnf); repeat (refine Gq ?_; (conv => whnf)))
          ((conv => whnf); (refine HfA nr ?_); ((conv => whnf); repeat (refine Gq ?_; (conv => whnf))))
          refine litE t5 ?_
          ((conv => whnf); repeat (refine Gq ?_; (conv => whnf)))
          exact TeA
        · have t5 : decide (n < 0) = false := decide_eq_false h0
          by_cases h2 : d < n
          · have t6 : decide (d < n) = true := decide_eq_true h2
            rw [if_pos (.inr h2)] at he
            rw [he]
            ((conv => whnf); repeat (refine Gq ?_; (conv => whnf)))
            refine Lt t4 ?_
            ((conv => whnf); repeat (refine Gq ?_; (conv => whnf)))
            refine ⟨by omega, by omega, ?_⟩
            ((conv => whnf); repeat (refine Gq ?_; (conv => whnf)))
            refine fm_ld opC_len hx ?_
            ((conv => whnf); repeat (refine Gq ?_; (conv => whnf)))
            ((conv => whnf); (refine HfA nr ?_); ((conv => whnf); repeat (refine Gq ?_; (conv => whnf))))
            refine litE t5 ?_
            ((conv => whnf); repeat (refine Gq ?_; (conv => whnf)))
            refine litE t6 ?_
            ((conv => whnf); repeat (refine Gq ?_; (conv => whnf)))
            exact TeA
          · have t6 : decide (d < n) = false := decide_eq_false h2
            rw [if_neg (by omega)] at he
            ((conv => whnf); repeat (refine Gq ?_; (conv => whnf)))
            refine Lt t4 ?_
            ((conv => whnf); repeat (refine Gq ?_; (conv => whnf)))
            refine ⟨by omega, by omega, ?_⟩
            ((conv => whnf); repeat (refine Gq ?_; (conv => whnf)))
            refine fm_ld opC_len hx ?_
            ((conv => whnf); repeat (refine Gq ?_; (conv => whnf)))
            ((conv => whnf); (refine HfA nr ?_); ((conv => whnf); repeat (refine Gq ?_; (conv => whnf))))
            refine litE t5 ?_
            ((conv => whnf); repeat (refine Gq ?_; (conv => whnf)))
            refine litE t6 ?_
            ((conv => whnf); repeat (refine Gq ?_; (conv => whnf)))
            refine ih (i + 1, d + (1 - n)) _ ⟨by dsimp only; omega, by dsimp only; omega, by dsimp only; omega, by dsimp only; omega, he⟩ ?_
            (refine Wk.pin [] _ _ ?_ ?_ rfl rfl (by decide) rfl rfl <;> (repeat' first | exact trivial | rfl | (refine And.intro ?_ ?_)))
            · exact inE (by rw [i64w (x := 1 - n) (by omega) (by omega)]; exact i64w (by omega) (by omega))
            · exact inE (i64n (by simp) (by omega))
      · have t4 : decide ((i : Int) < (l.length : Int)) = false := by simpa using hlt
        rw [he, List.drop_eq_nil_of_le (by omega), deepC]
        have t5 : (d == 1) = decide (some d = some (1 : Int)) := by rw [Bool.eq_iff_iff, beq_iff_eq, decide_eq_true_eq, Option.some.injEq]
        ((conv => whnf); repeat (refine Gq ?_; (conv => whnf)))
        refine Lf t4 ?_
        ((conv => whnf); repeat (refine Gq ?_; (conv => whnf)))
        refine litE t5 ?_
        ((conv => whnf); repeat (refine Gq ?_; (conv => whnf)))
        exact TeA
    · (refine Wk.pin [] _ _ ?_ ?_ rfl rfl (by decide) rfl rfl <;> (repeat' first | exact trivial | rfl | (refine And.intro ?_ ?_)))
theorem may_runs2 (l : List OpL) (f : ByteArray) (slots : Int) (hl : l.length ≤ 100000000) : Runs Tryz.prog 16 [cD l f, iD slots] (bD (mayC l f slots)) := by
  unfold mayC
  have t3 : (!(f.toList == ByteArray.toList ⟨#[]⟩)) = !decide (f = ByteArray.empty) := by rw [beqB]; rfl
  by_cases h1 : 1 ≤ l.length
  · have t1 : decide (((l.length : Nat) : Int) < 1) = false := by rw [decide_eq_false_iff_not]; omega
    by_cases h2 : l.length ≤ 200
    · have t2 : decide (((l.length : Nat) : Int) > 200) = false := by rw [decide_eq_false_iff_not]; omega
      rw [decide_eq_true h1, decide_eq_true h2, Bool.true_and, Bool.true_and]
      cases hf : foldB f with
      | true => rw [Bool.true_and]; exact may_loop l f slots h2 h1 hf
      | false =>
        rw [Bool.false_and]
        unfold foldB at hf
        rw [Bool.or_eq_false_iff] at hf
        have s1 := fsign_runs f foS
        rw [hf.2] at s1
        rw [hf.1] at t3
        refine Runs.wp Am.hT Am.hm Tryz.func16 rfl (by decide) ⟨[], [0, 1, 2, 4, 5, 7, 8, 29, 31, 32, 33, 34, 46], 54⟩ ?_; ((conv => whnf); repeat (refine Gq ?_; (conv => whnf)))
        refine litE t1 ?_
        ((conv => whnf); repeat (refine Gq ?_; (conv => whnf)))
        refine litE t2 ?_
        ((conv => whnf); repeat (refine Gq ?_; (conv => whnf)))
        refine litE t3 ?_
        ((conv => whnf); repeat (refine Gq ?_; (conv => whnf)))
        ((conv => whnf); (refine HfA s1 ?_); ((conv => whnf); repeat (refine Gq ?_; (conv => whnf))))
        exact TeA
    · have t2 : decide (((l.length : Nat) : Int) > 200) = true := by rw [decide_eq_true_iff]; omega
      rw [decide_eq_false h2, Bool.and_false, Bool.false_and, Bool.false_and]
      refine Runs.wp Am.hT Am.hm Tryz.func16 rfl (by decide) ⟨[], [0, 1, 2, 4, 5, 7, 8, 29, 31, 32, 33, 34, 46], 54⟩ ?_; ((conv => whnf); repeat (refine Gq ?_; (conv => whnf)))
      refine litE t1 ?_
      ((conv => whnf); repeat (refine Gq ?_; (conv => whnf)))
      refine litE t2 ?_
      ((conv => whnf); repeat (refine Gq ?_; (conv => whnf)))
      exact TeA
  · have t1 : decide (((l.length : Nat) : Int) < 1) = true := by rw [decide_eq_true_iff]; omega
    rw [decide_eq_false h1, Bool.false_and, Bool.false_and, Bool.false_and]
    refine Runs.wp Am.hT Am.hm Tryz.func16 rfl (by decide) ⟨[], [0, 1, 2, 4, 5, 7, 8, 29, 31, 32, 33, 34, 46], 54⟩ ?_; ((conv => whnf); repeat (refine Gq ?_; (conv => whnf)))
    refine litE t1 ?_
    ((conv => whnf); repeat (refine Gq ?_; (conv => whnf)))
    exact TeA
/-! ### numbers as an array -/
theorem ints_runs (l : List Int) (hl : l.length ≤ 1000000000) (hb : ∀ x ∈ l, -9223372036854775808 ≤ x ∧ x ≤ 9223372036854775807) : Runs Tryz.prog 44 [rI l none] (vD [(l.length : Int)] (l.map numS) none none) := by
  have hv := vector_runs (l.map numS) (by simp; omega)
  rw [List.length_map] at hv
  refine Runs.wp Am.hT Am.hm Tryz.func44 rfl (by decide) ⟨[], [0, 2, 3, 5, 6, 7, 8, 9], 20⟩ ?_; ((conv => whnf); repeat (refine Gq ?_; (conv => whnf)))
  refine loop_ind (fun k (i : Nat) => i + k = l.length + 1 ∧ i ≤ l.length) (fun i => { t := pin [(0, .d (rI l none)), (2, .pt 0 0), (3, .bs 1), (6, .d (rI l none)), (7, .d (iD l.length)), (8, .d (iD i))], N := 20, h := hpin [some (.st 47 [.imm (.slice none 0 0), .imm (.slice none 0 0)]), some (.ar 9 1 i (((l.map numS).take i).map sD))], n := 2, lo := 0 }) (fun i h => by omega) ?_ (l.length + 1) 0 ⟨by omega, by omega⟩ _ ?_
  · rintro k i R ih ⟨hk, hi⟩
    by_cases hlt : i < l.length
    · have t1 : decide ((i : Int) < (l.length : Int)) = true := by simpa using hlt
      have hx : l[i]? = some l[i] := List.getElem?_eq_getElem hlt
      have ho := of_runs l[i] (hb _ (List.getElem_mem hlt)).1 (hb _ (List.getElem_mem hlt)).2
      have hix : (l.map iD)[(i : Int).toNat * 1]? = some (iD l[i]) := ixm (j := i) hx (by simp)
      ((conv => whnf); repeat (refine Gq ?_; (conv => whnf)))
      refine Lt t1 ?_
      ((conv => whnf); repeat ((first | refine Wo ?_ | refine Lt (by decide) ?_ | refine Lf (by decide) ?_ | refine Cl (by decide) ?_ | refine Cr (by decide) ?_ | refine ⟨_, rfl, ?_⟩ | refine Mi rfl ?_ | (refine And.intro ArA ?_)); (conv => whnf)))
      ((conv => whnf); refine ⟨_, hix, ?_⟩; ((conv => whnf); repeat (refine Gq ?_; (conv => whnf))))
      ((conv => whnf); (refine HfA ho ?_); ((conv => whnf); repeat (refine Gq ?_; (conv => whnf))))
      refine ⟨by unfold maxLen; omega, by dsimp only; omega, ?_⟩
      ((conv => whnf); repeat (refine Gq ?_; (conv => whnf)))
      refine ih (i + 1) _ ⟨by omega, by omega⟩ ?_
      (refine Wk.pin [0, 3] _ _ ?_ ?_ rfl rfl (by decide) rfl rfl <;> (repeat' first | exact trivial | rfl | (refine And.intro ?_ ?_)))
      · exact inE (i64n (by simp) (by omega))
      · exact arE (by rw [take_snoc (by simpa using hlt), List.map_append]; simp) rfl
    · have t1 : decide ((i : Int) < (l.length : Int)) = false := by simpa using hlt
      have hi' : i = l.length := by omega
      subst hi'
      have ht : (l.map numS).take l.length = l.map numS := List.take_of_length_le (by simp)
      rw [ht]
      ((conv => whnf); repeat (refine Gq ?_; (conv => whnf)))
      refine Lf t1 ?_
      ((conv => whnf); repeat (refine Gq ?_; (conv => whnf)))
      (conv => whnf)
      refine Hc.runs hv ?_ ?_
      · (conv => arg 1; whnf)
        apply Tels.cons
        · exact Tel.eq (dslE rfl (by simp))
        · exact Tels.nil
      ((conv => whnf); repeat (refine Gq ?_; (conv => whnf)))
      exact TeA
  · refine (Wk.virt 3 9 1 rfl (show 3 < 20 by decide)).trans ?_
    (refine Wk.to _ _ ?_ ?_ <;> (repeat' first | exact trivial | rfl | (refine And.intro ?_ ?_)))
end Go.Proofs.YtkhgpnbhnipndaaGreatDoor.Am
end
section
/- Frames: elements, whether they can go on. -/
namespace Go.Proofs.YtkhgpnbhnipndaaGreatDoor.Am
open Go Go.RowKit Go.Proofs.YtkhgpnbhnipndaaGreatDoor.Sh
open Go.Proofs.YtkhgpnbhnipndaaGreatDoor.Nm (numS)
set_option linter.unusedVariables false
set_option linter.unusedSimpArgs false
set_option maxRecDepth 100000
set_option maxHeartbeats 8000000
structure FrL where
  ops : List OpL
  fold : ByteArray
  ins : List ValL
  n : Int
  k : Int
  out : List ByteArray
  acc : ByteArray
abbrev frD (f : FrL) : D := .agg [rO f.ops, sD f.fold, rV f.ins, iD f.n, iD f.k, rS f.out none, sD f.acc]
/-- an input's element -/
def atF (ins : List ValL) (s k : Nat) : ByteArray := let e := (ins.getD s ([], [])).2; e.getD (min k (e.length - 1)) ByteArray.empty
theorem fat_runs {ops : List OpL} {fold acc : ByteArray} {ins : List ValL} {n : Int} {out : List ByteArray} {s k : Nat} (hs : s < ins.length) (he : ∀ v ∈ ins, v.2 ≠ [] ∧ v.2.length ≤ 100000000) (hk : k ≤ 100000000) :
    Runs Tryz.prog 93 [.agg [rO ops, sD fold, rV ins, iD n, iD k, rS out none, sD acc], iD s] (sD (atF ins s k)) := by
  have hx : ins[s]? = some ins[s] := List.getElem?_eq_getElem hs
  have hv := he ins[s] (List.getElem_mem hs)
  have hat : atF ins s k = ins[s].2.getD (min k (ins[s].2.length - 1)) ByteArray.empty := by
    unfold atF
    have : ins.getD s ([], []) = ins[s] := by rw [List.getD_eq_getElem?_getD, hx]; rfl
    rw [this]
  rw [hat]
  have hg : (ins.flatMap valC)[(s : Int).toNat * 2 + 1]? = some (rS ins[s].2 none) := (fm_get valC_len (i := (s : Int).toNat) (j := 1) (by rw [Int.toNat_natCast]; exact hx) (by decide)).trans rfl
  generalize ins[s].2 = e at *
  have hpos : 0 < e.length := List.length_pos_iff.2 hv.1
  obtain ⟨j, hj⟩ : ∃ j, j = min k (e.length - 1) := ⟨_, rfl⟩
  have hjl : j < e.length := by omega
  have hm : (if IntKind.i64.wrap ((e.length : Int) - 1) < (k : Int) then IntKind.i64.wrap ((e.length : Int) - 1) else (k : Int)) = (j : Int) := by
    rw [i64w (by omega) (by omega)]
    split <;> omega
  rw [← hj]
  have hix : (e.map sD)[(j : Int).toNat * 1]? = some (sD (e.getD j ByteArray.empty)) := ixm (j := j) (by rw [List.getD_eq_getElem?_getD, List.getElem?_eq_getElem hjl]; rfl) (by simp)
  rw [← hm] at hix
  refine Runs.wp Am.hT Am.hm Tryz.func93 rfl (by decide) ⟨[], [0, 1, 2, 4, 5], 21⟩ ?_; ((conv => whnf); repeat (refine Gq ?_; (conv => whnf)))
  refine ⟨by omega, by omega, ?_⟩
  ((conv => whnf); repeat (refine Gq ?_; (conv => whnf)))
  refine ⟨_, hg, ?_⟩
  ((conv => whnf); repeat (refine Gq ?_; (conv => whnf)))
  refine ⟨by rw [hm]; omega, by rw [hm]; omega, ?_⟩
  ((conv => whnf); repeat (refine Gq ?_; (conv => whnf)))
  refine ⟨_, hix, ?_⟩
  ((conv => whnf); repeat (refine Gq ?_; (conv => whnf)))
  exact TeA
theorem emp_b' {α : Type} (l : List α) : (((l.length : Nat) : Int) == 0) = decide (l = []) := by
  cases l with
  | nil => rfl
  | cons a l => rw [decide_eq_false (by simp), beq_eq_false_iff_ne]; simp; omega
theorem fine1_runs (v : ValL) : Runs Tryz.prog 92 [vD2 v] (bD (decide (v.2 = []))) := by
  have e := emp_b' v.2
  refine Runs.wp Am.hT Am.hm Tryz.func92 rfl (by decide) ⟨[], [0, 1, 2], 7⟩ ?_; ((conv => whnf); repeat (refine Gq ?_; (conv => whnf)))
  refine litE e ?_
  ((conv => whnf); repeat (refine Gq ?_; (conv => whnf)))
  exact TeA
def fineF (f : FrL) : Bool := decide (0 ≤ f.k) && mayC f.ops f.fold f.ins.length && !(f.ins.any fun v => decide (v.2 = []))
theorem fine_runs {f : FrL} (ho : f.ops.length ≤ 100000000) (hi : f.ins.length ≤ 100000000) : Runs Tryz.prog 55 [frD f] (bD (fineF f)) := by
  obtain ⟨ops, fold, ins, n, k, out, acc⟩ := f
  dsimp only at *
  have m := may_runs2 ops fold ins.length ho
  have c := contFV_runs (l := ins) (p := fun v => decide (v.2 = [])) (F := 92) (by omega) (fun v _ => fine1_runs v)
  unfold fineF
  dsimp only
  by_cases hk : 0 ≤ k
  · have t1 : decide (k ≥ 0) = true := decide_eq_true hk
    rw [decide_eq_true hk, Bool.true_and]
    cases hm : mayC ops fold ins.length with
    | false =>
      rw [hm] at m
      rw [Bool.false_and]
      refine Runs.wp Am.hT Am.hm Tryz.func55 rfl (by decide) ⟨[], [0, 1, 2], 20⟩ ?_; ((conv => whnf); repeat (refine Gq ?_; (conv => whnf)))
      refine litE t1 ?_
      ((conv => whnf); repeat (refine Gq ?_; (conv => whnf)))
      ((conv => whnf); (refine HfA m ?_); ((conv => whnf); repeat (refine Gq ?_; (conv => whnf))))
      exact TeA
    | true =>
      rw [hm] at m
      rw [Bool.true_and]
      generalize (ins.any fun v => decide (v.2 = [])) = z at *
      cases z with
      | true =>
        refine Runs.wp Am.hT Am.hm Tryz.func55 rfl (by decide) ⟨[], [0, 1, 2], 20⟩ ?_; ((conv => whnf); repeat (refine Gq ?_; (conv => whnf)))
        refine litE t1 ?_
        ((conv => whnf); repeat (refine Gq ?_; (conv => whnf)))
        ((conv => whnf); (refine HfA m ?_); ((conv => whnf); repeat (refine Gq ?_; (conv => whnf))))
        ((conv => whnf); (refine HfA c ?_); ((conv => whnf); repeat (refine Gq ?_; (conv => whnf))))
        exact TeA
      | false =>
        refine Runs.wp Am.hT Am.hm Tryz.func55 rfl (by decide) ⟨[], [0, 1, 2], 20⟩ ?_; ((conv => whnf); repeat (refine Gq ?_; (conv => whnf)))
        refine litE t1 ?_
        ((conv => whnf); repeat (refine Gq ?_; (conv => whnf)))
        ((conv => whnf); (refine HfA m ?_); ((conv => whnf); repeat (refine Gq ?_; (conv => whnf))))
        ((conv => whnf); (refine HfA c ?_); ((conv => whnf); repeat (refine Gq ?_; (conv => whnf))))
        exact TeA
  · have t1 : decide (k ≥ 0) = false := decide_eq_false hk
    rw [decide_eq_false hk, Bool.false_and, Bool.false_and]
    refine Runs.wp Am.hT Am.hm Tryz.func55 rfl (by decide) ⟨[], [0, 1, 2], 20⟩ ?_; ((conv => whnf); repeat (refine Gq ?_; (conv => whnf)))
    refine litE t1 ?_
    ((conv => whnf); repeat (refine Gq ?_; (conv => whnf)))
    exact TeA
theorem done_runs (f : FrL) : Runs Tryz.prog 23 [frD f] (bD (decide (f.n ≤ f.k))) := by
  obtain ⟨ops, fold, ins, n, k, out, acc⟩ := f
  have t1 : decide (k ≥ n) = decide (n ≤ k) := rfl
  refine Runs.wp Am.hT Am.hm Tryz.func23 rfl (by decide) ⟨[], [0, 1, 2], 8⟩ ?_; ((conv => whnf); repeat (refine Gq ?_; (conv => whnf)))
  refine litE t1 ?_
  ((conv => whnf); repeat (refine Gq ?_; (conv => whnf)))
  exact TeA
end Go.Proofs.YtkhgpnbhnipndaaGreatDoor.Am
end
section
/- Frames: a step. -/
namespace Go.Proofs.YtkhgpnbhnipndaaGreatDoor.Am
open Go Go.RowKit Go.Proofs.YtkhgpnbhnipndaaGreatDoor.Sh
open Go.Proofs.YtkhgpnbhnipndaaGreatDoor.Nm (numS)
set_option linter.unusedVariables false
set_option linter.unusedSimpArgs false
set_option maxRecDepth 100000
set_option maxHeartbeats 8000000
/-- what ops make of an element: the stack, the last one last -/
def oneC (ins : List ValL) (k : Nat) : List OpL → List ByteArray → ByteArray × Int
  | [], st => (st.getLastD ByteArray.empty, 0)
  | o :: l, st =>
    if o.1.1 = 1 then oneC ins k l (st ++ [atF ins o.1.2.toNat k])
    else if o.1.1 = 2 then oneC ins k l (st ++ [o.2])
    else if o.1.1 = 3 then
      let r := sd o.2 (st.dropLast.getLastD ByteArray.empty) (st.getLastD ByteArray.empty)
      if r.2 = 0 then oneC ins k l (st.dropLast.dropLast ++ [r.1]) else (ByteArray.empty, r.2)
    else oneC ins k l (st.dropLast ++ [smo o.2 (st.getLastD ByteArray.empty)])
def stepF (f : FrL) : FrL × Int :=
  if f.n ≤ f.k ∨ fineF f = false then (f, 0) else
    let x := oneC f.ins f.k.toNat f.ops []
    if x.2 = 0 then
      if f.fold = ByteArray.empty then ({ f with out := f.out ++ [x.1], k := f.k + 1 }, 0)
      else if 0 < f.k then
        let y := sd f.fold f.acc x.1
        if y.2 = 0 then ({ f with acc := y.1, k := f.k + 1 }, 0) else (f, y.2)
      else ({ f with acc := x.1, k := f.k + 1 }, 0)
    else (f, x.2)
theorem telI {k : IntKind} {x y : Int} (h : x = y) : Tel (.v (.int k x)) (.v (.int k y)) := h ▸ .refl _
theorem emp_s (s : ByteArray) : (!(s.toList == ByteArray.toList ⟨#[]⟩)) = !decide (s = ByteArray.empty) := by rw [beqB]; rfl
abbrev frE (ops : List OpL) (fold : ByteArray) (ins : List ValL) (n k : Int) (out : List ByteArray) (acc : ByteArray) : D := .agg [rO ops, sD fold, rV ins, iD n, iD k, rS out none, sD acc]
section
variable {ops : List OpL} {fold acc x : ByteArray} {ins : List ValL} {n k : Int} {out : List ByteArray}
theorem step_no1 (h : Runs Tryz.prog 23 [frE ops fold ins n k out acc] (bD true)) : Runs Tryz.prog 21 [frE ops fold ins n k out acc] (.tup [frE ops fold ins n k out acc, iD 0]) := by
  refine Runs.wp Am.hT Am.hm Tryz.func21 rfl (by decide) ⟨[], [0, 1, 2, 3, 4, 5, 12, 31, 43, 49], 64⟩ ?_; ((conv => whnf); repeat (refine Gq ?_; (conv => whnf)))
  ((conv => whnf); (refine HfA h ?_); ((conv => whnf); repeat (refine Gq ?_; (conv => whnf))))
  exact TeA
theorem step_err {e : Int} (he : e ≠ 0) (h : Runs Tryz.prog 23 [frE ops fold ins n k out acc] (bD false)) (h2 : Runs Tryz.prog 55 [frE ops fold ins n k out acc] (bD true)) (h3 : Runs Tryz.prog 56 [frE ops fold ins n k out acc] (.tup [sD x, iD e])) :
    Runs Tryz.prog 21 [frE ops fold ins n k out acc] (.tup [frE ops fold ins n k out acc, iD e]) := by
  have t1 : (e == 0) = false := by simpa using he
  have t2 : (!(e == 0)) = true := by simpa using he
  refine Runs.wp Am.hT Am.hm Tryz.func21 rfl (by decide) ⟨[], [0, 1, 2, 3, 4, 5, 12, 31, 43, 49], 64⟩ ?_; ((conv => whnf); repeat (refine Gq ?_; (conv => whnf)))
  ((conv => whnf); (refine HfA h ?_); ((conv => whnf); repeat (refine Gq ?_; (conv => whnf))))
  ((conv => whnf); (refine HfA h2 ?_); ((conv => whnf); repeat (refine Gq ?_; (conv => whnf))))
  ((conv => whnf); (refine HrA h3 ?_); ((conv => whnf); repeat (refine Gq ?_; (conv => whnf))))
  refine litE t1 ?_
  ((conv => whnf); repeat (refine Gq ?_; (conv => whnf)))
  refine litE t2 ?_
  ((conv => whnf); repeat (refine Gq ?_; (conv => whnf)))
  exact TeA
theorem step_out (hf : fold = ByteArray.empty) (hk : -9223372036854775808 ≤ k ∧ k < 9223372036854775807) (ho : out.length ≤ 100000000) (h : Runs Tryz.prog 23 [frE ops fold ins n k out acc] (bD false)) (h2 : Runs Tryz.prog 55 [frE ops fold ins n k out acc] (bD true)) (h3 : Runs Tryz.prog 56 [frE ops fold ins n k out acc] (.tup [sD x, iD 0])) :
    Runs Tryz.prog 21 [frE ops fold ins n k out acc] (.tup [frE ops fold ins n (k + 1) (out ++ [x]) acc, iD 0]) := by
  have t3 := emp_s fold
  rw [decide_eq_true hf] at t3
  refine Runs.wp Am.hT Am.hm Tryz.func21 rfl (by decide) ⟨[], [0, 1, 2, 3, 4, 5, 12, 31, 43, 49], 64⟩ ?_; ((conv => whnf); repeat (refine Gq ?_; (conv => whnf)))
  ((conv => whnf); (refine HfA h ?_); ((conv => whnf); repeat (refine Gq ?_; (conv => whnf))))
  ((conv => whnf); (refine HfA h2 ?_); ((conv => whnf); repeat (refine Gq ?_; (conv => whnf))))
  ((conv => whnf); (refine HrA h3 ?_); ((conv => whnf); repeat (refine Gq ?_; (conv => whnf))))
  refine litE t3 ?_
  ((conv => whnf); repeat (refine Gq ?_; (conv => whnf)))
  refine litE t3 ?_
  ((conv => whnf); repeat (refine Gq ?_; (conv => whnf)))
  ((conv => whnf); refine Hc.inl Am.hT Am.hm Tryz.func58 rfl (by decide) ⟨[], [0, 2], 9⟩ ?_; ((conv => whnf); repeat (refine Gq ?_; (conv => whnf))))
  refine ⟨by omega, by omega, by omega, ?_⟩
  ((conv => whnf); repeat (refine Gq ?_; (conv => whnf)))
  refine ⟨by omega, by omega, ?_⟩
  ((conv => whnf); repeat (refine Gq ?_; (conv => whnf)))
  refine ⟨rfl, by unfold maxLen; simp; omega, by dsimp only; simp; omega, ?_⟩
  ((conv => whnf); repeat (refine Gq ?_; (conv => whnf)))
  ((conv => whnf); ((repeat ((conv => arg 1; whnf); first | exact Tels.nil | apply Tels.cons | apply Tel.aggs | apply Tel.tups | exact Tel.refl _ | exact Tel.nil1 _ | exact Tel.cap _ _ _ _ | exact telI (i64w (by omega) (by omega)) | exact Tel.eq (dslE (by simp [List.take_of_length_le]) (by simp)))); done))
theorem step_acc0 (hf : fold ≠ ByteArray.empty) (hk : k = 0) (h : Runs Tryz.prog 23 [frE ops fold ins n k out acc] (bD false)) (h2 : Runs Tryz.prog 55 [frE ops fold ins n k out acc] (bD true)) (h3 : Runs Tryz.prog 56 [frE ops fold ins n k out acc] (.tup [sD x, iD 0])) :
    Runs Tryz.prog 21 [frE ops fold ins n k out acc] (.tup [frE ops fold ins n (k + 1) out x, iD 0]) := by
  subst hk
  have t3 := emp_s fold
  rw [decide_eq_false hf] at t3
  refine Runs.wp Am.hT Am.hm Tryz.func21 rfl (by decide) ⟨[], [0, 1, 2, 3, 4, 5, 12, 31, 43, 49], 64⟩ ?_; ((conv => whnf); repeat (refine Gq ?_; (conv => whnf)))
  ((conv => whnf); (refine HfA h ?_); ((conv => whnf); repeat (refine Gq ?_; (conv => whnf))))
  ((conv => whnf); (refine HfA h2 ?_); ((conv => whnf); repeat (refine Gq ?_; (conv => whnf))))
  ((conv => whnf); (refine HrA h3 ?_); ((conv => whnf); repeat (refine Gq ?_; (conv => whnf))))
  refine litE t3 ?_
  ((conv => whnf); repeat (refine Gq ?_; (conv => whnf)))
  refine litE t3 ?_
  ((conv => whnf); repeat (refine Gq ?_; (conv => whnf)))
  exact TeA
theorem step_acc {y : ByteArray} (hf : fold ≠ ByteArray.empty) (hk : 0 < k ∧ k < 9223372036854775807) (h : Runs Tryz.prog 23 [frE ops fold ins n k out acc] (bD false)) (h2 : Runs Tryz.prog 55 [frE ops fold ins n k out acc] (bD true)) (h3 : Runs Tryz.prog 56 [frE ops fold ins n k out acc] (.tup [sD x, iD 0]))
    (h4 : Runs Tryz.prog 57 [sD fold, sD acc, sD x] (.tup [sD y, iD 0])) :
    Runs Tryz.prog 21 [frE ops fold ins n k out acc] (.tup [frE ops fold ins n (k + 1) out y, iD 0]) := by
  have t3 := emp_s fold
  rw [decide_eq_false hf] at t3
  have t4 : decide (k > 0) = true := decide_eq_true hk.1
  refine Runs.wp Am.hT Am.hm Tryz.func21 rfl (by decide) ⟨[], [0, 1, 2, 3, 4, 5, 12, 31, 43, 49], 64⟩ ?_; ((conv => whnf); repeat (refine Gq ?_; (conv => whnf)))
  ((conv => whnf); (refine HfA h ?_); ((conv => whnf); repeat (refine Gq ?_; (conv => whnf))))
  ((conv => whnf); (refine HfA h2 ?_); ((conv => whnf); repeat (refine Gq ?_; (conv => whnf))))
  ((conv => whnf); (refine HrA h3 ?_); ((conv => whnf); repeat (refine Gq ?_; (conv => whnf))))
  refine litE t3 ?_
  ((conv => whnf); repeat (refine Gq ?_; (conv => whnf)))
  refine litE t4 ?_
  ((conv => whnf); repeat (refine Gq ?_; (conv => whnf)))
  ((conv => whnf); (refine HrA h4 ?_); ((conv => whnf); repeat (refine Gq ?_; (conv => whnf))))
  refine litE t3 ?_
  ((conv => whnf); repeat (refine Gq ?_; (conv => whnf)))
  ((conv => whnf); ((repeat ((conv => arg 1; whnf); first | exact Tels.nil | apply Tels.cons | apply Tel.aggs | apply Tel.tups | exact Tel.refl _ | exact Tel.nil1 _ | exact Tel.cap _ _ _ _ | exact telI (i64w (by omega) (by omega)))); done))
theorem step_bad {y : ByteArray} {e : Int} (he : e ≠ 0) (hf : fold ≠ ByteArray.empty) (hk : 0 < k) (h : Runs Tryz.prog 23 [frE ops fold ins n k out acc] (bD false)) (h2 : Runs Tryz.prog 55 [frE ops fold ins n k out acc] (bD true)) (h3 : Runs Tryz.prog 56 [frE ops fold ins n k out acc] (.tup [sD x, iD 0]))
    (h4 : Runs Tryz.prog 57 [sD fold, sD acc, sD x] (.tup [sD y, iD e])) :
    Runs Tryz.prog 21 [frE ops fold ins n k out acc] (.tup [frE ops fold ins n k out acc, iD e]) := by
  have t2 : (!(e == 0)) = true := by simpa using he
  have t3 := emp_s fold
  rw [decide_eq_false hf] at t3
  have t4 : decide (k > 0) = true := decide_eq_true hk
  refine Runs.wp Am.hT Am.hm Tryz.func21 rfl (by decide) ⟨[], [0, 1, 2, 3, 4, 5, 12, 31, 43, 49], 64⟩ ?_; ((conv => whnf); repeat (refine Gq ?_; (conv => whnf)))
  ((conv => whnf); (refine HfA h ?_); ((conv => whnf); repeat (refine Gq ?_; (conv => whnf))))
  ((conv => whnf); (refine HfA h2 ?_); ((conv => whnf); repeat (refine Gq ?_; (conv => whnf))))
  ((conv => whnf); (refine HrA h3 ?_); ((conv => whnf); repeat (refine Gq ?_; (conv => whnf))))
  refine litE t3 ?_
  ((conv => whnf); repeat (refine Gq ?_; (conv => whnf)))
  refine litE t4 ?_
  ((conv => whnf); repeat (refine Gq ?_; (conv => whnf)))
  ((conv => whnf); (refine HrA h4 ?_); ((conv => whnf); repeat (refine Gq ?_; (conv => whnf))))
  refine litE t2 ?_
  ((conv => whnf); repeat (refine Gq ?_; (conv => whnf)))
  exact TeA
end
end Go.Proofs.YtkhgpnbhnipndaaGreatDoor.Am
end
section
/- SpreadTwice, walked. -/
namespace Go.Proofs.YtkhgpnbhnipndaaGreatDoor.Am
open Go Go.RowKit Go.Proofs.YtkhgpnbhnipndaaGreatDoor.Sh
open Go.Proofs.YtkhgpnbhnipndaaGreatDoor.Nm (numS sgn)
set_option linter.unusedVariables false
set_option linter.unusedSimpArgs false
set_option maxRecDepth 100000
set_option maxHeartbeats 8000000
theorem moZ_num (c : UInt8) {x : Int} (hx : Nm.Sm x) : ∃ z, Nm.Sm z ∧ moZ c x = numS z := by
  unfold moZ
  split
  · exact ⟨_, Nm.sm_neg hx, rfl⟩
  · split
    · exact ⟨_, sm_b01 _, rfl⟩
    · exact ⟨_, Nm.sm_i64 (by unfold sgn; split <;> (try split) <;> omega) (by unfold sgn; split <;> (try split) <;> omega), rfl⟩
theorem smo_may (op : ByteArray) {b : ByteArray} (h : mayB b = true) : mayB (smo op b) = true := by
  obtain ⟨x, rfl, hx⟩ := num_mayB h
  unfold smo
  rw [zB_num]
  obtain ⟨z, hz, e⟩ := moZ_num (op.data.toList.headD 0) hx
  rw [e]
  exact mayB_num hz
end Go.Proofs.YtkhgpnbhnipndaaGreatDoor.Am
end
section
/- Frames: what the ops make of an element. -/
namespace Go.Proofs.YtkhgpnbhnipndaaGreatDoor.Am
open Go Go.RowKit Go.Proofs.YtkhgpnbhnipndaaGreatDoor.Sh
open Go.Proofs.YtkhgpnbhnipndaaGreatDoor.Nm (numS)
set_option linter.unusedVariables false
set_option linter.unusedSimpArgs false
set_option maxRecDepth 100000
set_option maxHeartbeats 8000000
theorem sd_may {op a b : ByteArray} (ha : mayB a = true) (hb : mayB b = true) (h : (sd op a b).2 = 0) : mayB (sd op a b).1 = true := by
  obtain ⟨x, rfl, hx⟩ := num_mayB ha
  obtain ⟨y, rfl, hy⟩ := num_mayB hb
  obtain ⟨z, hz, e⟩ := (sd_sound op hx hy).2 h
  rw [e]
  exact mayB_num hz
theorem at_may {ins : List ValL} {s k : Nat} (hs : s < ins.length) (he : ∀ v ∈ ins, v.2 ≠ [] ∧ v.2.length ≤ 100000000 ∧ ∀ b ∈ v.2, mayB b = true) : mayB (atF ins s k) = true := by
  have hx : ins.getD s ([], []) = ins[s] := by rw [List.getD_eq_getElem?_getD, List.getElem?_eq_getElem hs]; rfl
  have hv := he ins[s] (List.getElem_mem hs)
  unfold atF
  rw [hx]
  have hpos : 0 < ins[s].2.length := List.length_pos_iff.2 hv.1
  refine hv.2.2 _ ?_
  dsimp only
  rw [List.getD_eq_getElem?_getD, List.getElem?_eq_getElem (show min k (ins[s].2.length - 1) < ins[s].2.length by omega)]
  exact List.getElem_mem _
noncomputable def onQ (ops : List OpL) (fold acc : ByteArray) (ins : List ValL) (n : Int) (k : Nat) (out : List ByteArray) (i : Nat) (st : List ByteArray) : St :=
  { t := pin [(1, .pt 0 0), (4, .pt 1 0), (12, .d (rO ops)), (13, .d (iD ops.length)), (14, .d (iD i))], N := 57,
    h := hpin [some (.st 33 [.d (rO ops), .d (sD fold), .d (rV ins), .d (iD n), .d (iD k), .d (rS out none), .d (sD acc)]), some (.st 133 [.bs 2]), some (.ar 9 1 st.length (st.map sD))], n := 3, lo := 0 }
theorem one_runs {ops : List OpL} {fold acc : ByteArray} {ins : List ValL} {n : Int} {k : Nat} {out : List ByteArray} (hd : deepC ins.length ops 0 = some 1) (hl : ops.length ≤ 200) (hi : ins.length ≤ 100000000) (he : ∀ v ∈ ins, v.2 ≠ [] ∧ v.2.length ≤ 100000000 ∧ ∀ b ∈ v.2, mayB b = true) (hk : k ≤ 100000000) :
    Runs Tryz.prog 56 [frE ops fold ins n k out acc] (.tup [sD (oneC ins k ops []).1, iD (oneC ins k ops []).2]) := by
  refine Runs.wp Am.hT Am.hm Tryz.func56 rfl (by decide) ⟨[(14, .first 0 (.first 3 (.alt 1 (.alt 2 (.alt 4 (.first 5 (.first 6 (.first 7 (.first 8 (.first 9 .done))))) .nil) .nil) (.alt 2 (.load 1 [4, 5, 6, 7, 8, 9] (.alt 4 (.first 5 (.first 6 (.first 7 (.first 8 (.first 9 .done))))) .nil)) .nil)))), (16, .first 0 (.alt 1 (.alt 2 (.alt 3 (.first 4 (.first 5 (.first 6 (.first 7 (.first 8 .done))))) .nil) .nil) (.alt 2 (.load 1 [3, 4, 5, 6, 7, 8] (.alt 3 (.first 4 (.first 5 (.first 6 (.first 7 (.first 8 .done))))) .nil)) .nil)))], [0, 1, 2, 3, 4, 6, 7, 8, 9, 12, 13, 14, 15, 19, 20, 26, 30, 41, 51], 57⟩ ?_; ((conv => whnf); repeat (refine Gq ?_; (conv => whnf)))
  refine loop_ind (fun j (x : Nat × List ByteArray) => x.1 + j = ops.length + 1 ∧ x.1 ≤ ops.length ∧ x.2.length ≤ x.1 ∧ (∀ b ∈ x.2, mayB b = true) ∧ deepC ins.length (ops.drop x.1) x.2.length = some 1 ∧ oneC ins k ops [] = oneC ins k (ops.drop x.1) x.2) (fun x => onQ ops fold acc ins n k out x.1 x.2) (fun x h => by omega) ?_ (ops.length + 1) (0, []) ⟨by simp, by simp, by simp, by simp, hd, rfl⟩ _ ?_
  · rintro j ⟨i, st⟩ R ih ⟨hj, hi', hst, hm, hdp, ho⟩
    dsimp only at *
    unfold onQ
    by_cases hlt : i < ops.length
    · have t4 : decide ((i : Int) < (ops.length : Int)) = true := by simpa using hlt
      have hx : ops[i]? = some ops[i] := List.getElem?_eq_getElem hlt
      rw [List.drop_eq_getElem_cons hlt, deepC] at hdp
      rw [List.drop_eq_getElem_cons hlt, oneC] at ho
      generalize ops[i] = o at *
      obtain ⟨⟨kd, sl⟩, tx⟩ := o
      by_cases hn : needsZ ins.length ((kd, sl), tx) < 0 ∨ (st.length : Int) < needsZ ins.length ((kd, sl), tx)
      · rw [if_pos hn] at hdp; cases hdp
      rw [if_neg hn] at hdp
      have hn0 : ¬ needsZ ins.length ((kd, sl), tx) < 0 := fun h => hn (.inl h)
      have hn1 : ¬ (st.length : Int) < needsZ ins.length ((kd, sl), tx) := fun h => hn (.inr h)
      clear hn
      by_cases h2 : kd = 2
      · subst h2
        have hz : needsZ ins.length ((2, sl), tx) = 0 ∧ mayB tx = true := by
          unfold needsZ at hn0 ⊢
          dsimp only at hn0 ⊢
          by_cases hmt : mayB tx = true
          · exact ⟨if_pos (.inr ⟨rfl, hmt⟩), hmt⟩
          · rw [if_neg (by rintro (⟨h, _⟩ | ⟨_, h⟩); cases h; exact hmt h), if_neg (by rintro ⟨h, _⟩; cases h), if_neg (by rintro ⟨h, _⟩; cases h)] at hn0
            exact absurd (by decide) hn0
        rw [hz.1] at hdp
        have ho' : oneC ins k ops [] = oneC ins k (ops.drop (i + 1)) (st ++ [tx]) := ho
        have u1 : ((((2 : Int), sl), tx).1.1 == 1) = false := rfl
        have u2 : ((((2 : Int), sl), tx).1.1 == 2) = true := rfl
        ((conv => whnf); repeat (refine Gq ?_; (conv => whnf)))
        refine Lt t4 ?_
        ((conv => whnf); repeat (refine Gq ?_; (conv => whnf)))
        refine ⟨by omega, by omega, ?_⟩
        ((conv => whnf); repeat (refine Gq ?_; (conv => whnf)))
        refine fm_ld opC_len hx ?_
        ((conv => whnf); repeat (refine Gq ?_; (conv => whnf)))
        refine litE u1 ?_
        ((conv => whnf); repeat (refine Gq ?_; (conv => whnf)))
        refine litE u2 ?_
        ((conv => whnf); repeat (refine Gq ?_; (conv => whnf)))
        ((conv => whnf); refine Hc.inl Am.hT Am.hm Tryz.func96 rfl (by decide) ⟨[], [0, 1], 14⟩ ?_; ((conv => whnf); repeat (refine Gq ?_; (conv => whnf))))
        refine ⟨by unfold maxLen; omega, by dsimp only; omega, ?_⟩
        ((conv => whnf); repeat (refine Gq ?_; (conv => whnf)))
        refine ih (i + 1, st ++ [tx]) _ ⟨by dsimp only; omega, by dsimp only; omega, by dsimp only; rw [List.length_append, List.length_singleton]; omega, fun b hb => ?_, by dsimp only; rw [List.length_append, List.length_singleton]; exact hdp, ho'⟩ ?_
        · rcases List.mem_append.1 hb with h | h
          · exact hm b h
          · rw [List.mem_singleton.1 h]; exact hz.2
        dsimp only
        unfold onQ
        (refine Wk.pin [0, 1, 5] _ _ ?_ ?_ rfl rfl (by decide) rfl rfl <;> (repeat' first | exact trivial | rfl | (refine And.intro ?_ ?_)))
        · exact inE (i64n (by simp) (by omega))
        · exact arE (by rw [List.map_append]; rfl) (by simp)
      by_cases h1 : kd = 1
      · subst h1
        have hz : needsZ ins.length ((1, sl), tx) = 0 ∧ 0 ≤ sl ∧ sl < ins.length := by
          unfold needsZ at hn0 ⊢
          dsimp only at hn0 ⊢
          by_cases hmt : 0 ≤ sl ∧ sl < ins.length
          · exact ⟨if_pos (.inl ⟨rfl, hmt⟩), hmt⟩
          · rw [if_neg (by rintro (⟨_, h⟩ | ⟨h, _⟩); exact hmt h; cases h), if_neg (by rintro ⟨h, _⟩; cases h), if_neg (by rintro ⟨h, _⟩; cases h)] at hn0
            exact absurd (by decide) hn0
        rw [hz.1] at hdp
        obtain ⟨s, rfl⟩ := Int.eq_ofNat_of_zero_le hz.2.1
        have hs : s < ins.length := by omega
        have ho' : oneC ins k ops [] = oneC ins k (ops.drop (i + 1)) (st ++ [atF ins s k]) := ho
        have ha := fat_runs (ops := ops) (fold := fold) (acc := acc) (n := n) (out := out) hs (fun v hv => ⟨(he v hv).1, (he v hv).2.1⟩) hk
        have u1 : ((((1 : Int), (s : Int)), tx).1.1 == 1) = true := rfl
        ((conv => whnf); repeat (refine Gq ?_; (conv => whnf)))
        refine Lt t4 ?_
        ((conv => whnf); repeat (refine Gq ?_; (conv => whnf)))
        refine ⟨by omega, by omega, ?_⟩
        ((conv => whnf); repeat (refine Gq ?_; (conv => whnf)))
        refine fm_ld opC_len hx ?_
        ((conv => whnf); repeat (refine Gq ?_; (conv => whnf)))
        refine litE u1 ?_
        ((conv => whnf); repeat (refine Gq ?_; (conv => whnf)))
        ((conv => whnf); (refine HfA ha ?_); ((conv => whnf); repeat (refine Gq ?_; (conv => whnf))))
        ((conv => whnf); refine Hc.inl Am.hT Am.hm Tryz.func96 rfl (by decide) ⟨[], [0, 1], 14⟩ ?_; ((conv => whnf); repeat (refine Gq ?_; (conv => whnf))))
        refine ⟨by unfold maxLen; omega, by dsimp only; omega, ?_⟩
        ((conv => whnf); repeat (refine Gq ?_; (conv => whnf)))
        refine ih (i + 1, st ++ [atF ins s k]) _ ⟨by dsimp only; omega, by dsimp only; omega, by dsimp only; rw [List.length_append, List.length_singleton]; omega, fun b hb => ?_, by dsimp only; rw [List.length_append, List.length_singleton]; exact hdp, ho'⟩ ?_
        · rcases List.mem_append.1 hb with h | h
          · exact hm b h
          · rw [List.mem_singleton.1 h]; exact at_may hs he
        dsimp only
        unfold onQ
        (refine Wk.pin [0, 1, 5] _ _ ?_ ?_ rfl rfl (by decide) rfl rfl <;> (repeat' first | exact trivial | rfl | (refine And.intro ?_ ?_)))
        · exact inE (i64n (by simp) (by omega))
        · exact arE (by rw [List.map_append]; rfl) (by simp)
      by_cases h3 : kd = 3
      · subst h3
        have hz : needsZ ins.length ((3, sl), tx) = 2 ∧ sgB whS tx = true := by
          unfold needsZ at hn0 ⊢
          dsimp only at hn0 ⊢
          have g1 : ¬ ((3 : Int) = 1 ∧ 0 ≤ sl ∧ sl < ins.length ∨ (3 : Int) = 2 ∧ mayB tx = true) := by rintro (⟨h, _⟩ | ⟨h, _⟩) <;> cases h
          rw [if_neg g1] at hn0 ⊢
          by_cases hmt : sgB whS tx = true
          · exact ⟨if_pos ⟨rfl, hmt⟩, hmt⟩
          · rw [if_neg (by rintro ⟨_, h⟩; exact hmt h), if_neg (by rintro ⟨h, _⟩; cases h)] at hn0
            exact absurd (by decide) hn0
        rw [hz.1] at hdp hn1
        obtain ⟨p, a, b, rfl⟩ : ∃ p a b, st = p ++ [a, b] := by
          rcases snoc_cases st with rfl | ⟨q, b, rfl⟩
          · simp at hn1
          · rcases snoc_cases q with rfl | ⟨p, a, rfl⟩
            · simp at hn1
            · exact ⟨p, a, b, by simp⟩
        have hL : (p ++ [a, b]).length = p.length + 2 := by simp
        have e1 : IntKind.i64.wrap ((((p ++ [a, b]).length : Nat) : Int) - 1) = ((p.length + 1 : Nat) : Int) := by rw [hL]; exact i64n (by omega) (by omega)
        have e2 : IntKind.i64.wrap ((((IntKind.i64.wrap ((((p ++ [a, b]).length : Nat) : Int) - 1)).toNat : Nat) : Int) - 1) = ((p.length : Nat) : Int) := by rw [e1, Int.toNat_natCast]; exact i64n (by omega) (by omega)
        have x1 : ((p ++ [a, b]).map sD)[(IntKind.i64.wrap ((((p ++ [a, b]).length : Nat) : Int) - 1)).toNat * 1]? = some (sD b) := by rw [e1, Int.toNat_natCast, Nat.mul_one]; simp
        have x2 : (List.take ((IntKind.i64.wrap ((((p ++ [a, b]).length : Nat) : Int) - 1)).toNat * 1) ((p ++ [a, b]).map sD))[(IntKind.i64.wrap ((((IntKind.i64.wrap ((((p ++ [a, b]).length : Nat) : Int) - 1)).toNat : Nat) : Int) - 1)).toNat * 1]? = some (sD a) := by rw [e2, e1, Int.toNat_natCast, Int.toNat_natCast, Nat.mul_one, Nat.mul_one, List.getElem?_take_of_lt (by omega)]; simp
        have ma := hm a (by simp)
        have mb := hm b (by simp)
        have hD := sd_runs (wh_dy hz.2) ma mb
        have hsm := sd_may (op := tx) ma mb
        have ho' : oneC ins k ops [] = if (sd tx a b).2 = 0 then oneC ins k (ops.drop (i + 1)) (p ++ [(sd tx a b).1]) else (ByteArray.empty, (sd tx a b).2) := by
          rw [ho]
          have d1 : (p ++ [a, b]).dropLast = p ++ [a] := by rw [show p ++ [a, b] = (p ++ [a]) ++ [b] by simp, List.dropLast_concat]
          have d2 : (p ++ [a, b]).getLastD ByteArray.empty = b := by rw [show p ++ [a, b] = (p ++ [a]) ++ [b] by simp]; simp
          dsimp only
          rw [if_neg (by decide), if_neg (by decide), if_pos rfl, d1, d2, List.dropLast_concat]
          simp
        generalize sd tx a b = r at *
        obtain ⟨r, e⟩ := r
        dsimp only at hsm ho'
        have u1 : ((((3 : Int), sl), tx).1.1 == 1) = false := rfl
        have u2 : ((((3 : Int), sl), tx).1.1 == 2) = false := rfl
        have u3 : ((((3 : Int), sl), tx).1.1 == 3) = true := rfl
        have t0 : e ≠ 0 → (!(((r, e) : ByteArray × Int).2 == 0)) = true := fun h => by simpa using h
        by_cases h0 : e = 0
        · subst h0
          rw [if_pos rfl] at ho'
          ((conv => whnf); repeat (refine Gq ?_; (conv => whnf)))
          refine Lt t4 ?_
          ((conv => whnf); repeat (refine Gq ?_; (conv => whnf)))
          refine ⟨by omega, by omega, ?_⟩
          ((conv => whnf); repeat (refine Gq ?_; (conv => whnf)))
          refine fm_ld opC_len hx ?_
          ((conv => whnf); repeat (refine Gq ?_; (conv => whnf)))
          refine litE u1 ?_
          ((conv => whnf); repeat (refine Gq ?_; (conv => whnf)))
          refine litE u2 ?_
          ((conv => whnf); repeat (refine Gq ?_; (conv => whnf)))
          refine litE u3 ?_
          ((conv => whnf); repeat (refine Gq ?_; (conv => whnf)))
          (((conv => whnf); refine Hc.inl Am.hT Am.hm Tryz.func94 rfl (by decide) ⟨[(1, .first 0 (.first 1 (.first 2 (.first 4 (.first 5 (.first 6 (.load 3 [10, 11, 12] (.load 7 [8, 9, 10, 11, 12] (.first 8 (.first 9 (.first 10 (.load 11 [12] (.first 12 .done))))))))))))), (2, .first 0 (.first 1 (.first 2 (.first 3 (.first 5 (.first 6 (.first 7 (.load 4 [11, 12, 13, 14] (.load 8 [9, 10, 11, 12, 13, 14] (.first 9 (.first 10 (.alt 11 (.first 12 (.first 13 (.alt 14 .done .nil))) .nil))))))))))))], [0, 2, 3], 31⟩ ?_; ((conv => whnf); repeat (refine Gq ?_; (conv => whnf)))); (refine And.intro (by decide +kernel) ?_; apply Exists.intro; apply And.intro; focus ((repeat' ((conv => whnf); first | exact trivial | refine Wo ?_ | refine Lt (by decide) ?_ | refine Lf (by decide) ?_ | refine Cl (by decide) ?_ | refine Cr (by decide) ?_ | refine Both.mk ?_ ?_ | (first | exact Wk.frc (keep := [0, 2, 3]) (N := 31) (by (conv => whnf); first | done | exact rfl) | refine ⟨_, x1, ?_⟩ | refine ⟨by rw [e1]; omega, by rw [e1]; omega, ?_⟩) | refine ⟨_, rfl, ?_⟩ | refine Mi rfl ?_ | (refine And.intro ?_ ?_))); all_goals (first | decide | rfl | assumption | omega | (dsimp only; omega) | (unfold maxLen; omega) | ((try dsimp only [maxLen]); simp only [List.length_append, List.length_cons, List.length_nil, List.length_map, List.length_range, List.length_set, List.length_replicate]; omega) | ((try dsimp only [maxLen]); simp only [IntKind.wrap_i64, IntKind.wrap_u64, List.length_append, List.length_cons, List.length_nil, List.length_map, List.length_range, List.length_set, List.length_replicate]; omega) | ((try dsimp only [maxLen]); simp only [List.length_append, List.length_cons, List.length_nil, List.length_map, List.length_range, List.length_set, List.length_replicate] at *; omega)))); ((conv => whnf); repeat (refine Gq ?_; (conv => whnf))); (refine And.intro (by decide +kernel) ?_; apply Exists.intro; apply And.intro; focus ((repeat' ((conv => whnf); first | exact trivial | refine Wo ?_ | refine Lt (by decide) ?_ | refine Lf (by decide) ?_ | refine Cl (by decide) ?_ | refine Cr (by decide) ?_ | refine Both.mk ?_ ?_ | (first | exact Wk.frc (keep := [0, 2, 3]) (N := 31) (by (conv => whnf); first | done | exact rfl) | refine ⟨by rw [e1]; omega, by rw [e1]; omega, ?_⟩) | refine ⟨_, rfl, ?_⟩ | refine Mi rfl ?_ | (refine And.intro ?_ ?_))); all_goals (first | decide | rfl | assumption | omega | (dsimp only; omega) | (unfold maxLen; omega) | ((try dsimp only [maxLen]); simp only [List.length_append, List.length_cons, List.length_nil, List.length_map, List.length_range, List.length_set, List.length_replicate]; omega) | ((try dsimp only [maxLen]); simp only [IntKind.wrap_i64, IntKind.wrap_u64, List.length_append, List.length_cons, List.length_nil, List.length_map, List.length_range, List.length_set, List.length_replicate]; omega) | ((try dsimp only [maxLen]); simp only [List.length_append, List.length_cons, List.length_nil, List.length_map, List.length_range, List.length_set, List.length_replicate] at *; omega)))); ((conv => whnf); repeat (refine Gq ?_; (conv => whnf))))
          (refine And.intro (by decide +kernel) ?_; apply Exists.intro; apply And.intro; focus ((repeat' ((conv => whnf); first | exact trivial | refine Wo ?_ | refine Lt (by decide) ?_ | refine Lf (by decide) ?_ | refine Cl (by decide) ?_ | refine Cr (by decide) ?_ | refine Both.mk ?_ ?_ | (first | exact Wk.frc (keep := [0, 1, 2, 3, 4, 6, 7, 8, 9, 12, 13, 14, 15, 19, 20, 26, 30, 41, 51]) (N := 57) (by (conv => whnf); first | done | exact rfl) | (refine HfA hD ?_) | (((conv => whnf); refine Hc.inl Am.hT Am.hm Tryz.func94 rfl (by decide) ⟨[(1, .first 0 (.first 1 (.first 2 (.first 4 (.first 5 (.first 6 (.load 3 [10, 11, 12] (.load 7 [8, 9, 10, 11, 12] (.first 8 (.first 9 (.first 10 (.load 11 [12] (.first 12 .done))))))))))))), (2, .first 0 (.first 1 (.first 2 (.first 3 (.first 5 (.first 6 (.first 7 (.load 4 [11, 12, 13, 14] (.load 8 [9, 10, 11, 12, 13, 14] (.first 9 (.first 10 (.alt 11 (.first 12 (.first 13 (.alt 14 .done .nil))) .nil))))))))))))], [0, 2, 3], 31⟩ ?_; ((conv => whnf); repeat (refine Gq ?_; (conv => whnf)))); (refine And.intro (by decide +kernel) ?_; apply Exists.intro; apply And.intro; focus ((repeat' ((conv => whnf); first | exact trivial | refine Wo ?_ | refine Lt (by decide) ?_ | refine Lf (by decide) ?_ | refine Cl (by decide) ?_ | refine Cr (by decide) ?_ | refine Both.mk ?_ ?_ | (first | exact Wk.frc (keep := [0, 2, 3]) (N := 31) (by (conv => whnf); first | done | exact rfl) | refine ⟨_, x2, ?_⟩ | refine ⟨by rw [e2]; omega, by rw [e2]; omega, ?_⟩) | refine ⟨_, rfl, ?_⟩ | refine Mi rfl ?_ | (refine And.intro ?_ ?_))); all_goals (first | decide | rfl | assumption | omega | (dsimp only; omega) | (unfold maxLen; omega) | ((try dsimp only [maxLen]); simp only [List.length_append, List.length_cons, List.length_nil, List.length_map, List.length_range, List.length_set, List.length_replicate]; omega) | ((try dsimp only [maxLen]); simp only [IntKind.wrap_i64, IntKind.wrap_u64, List.length_append, List.length_cons, List.length_nil, List.length_map, List.length_range, List.length_set, List.length_replicate]; omega) | ((try dsimp only [maxLen]); simp only [List.length_append, List.length_cons, List.length_nil, List.length_map, List.length_range, List.length_set, List.length_replicate] at *; omega)))); ((conv => whnf); repeat (refine Gq ?_; (conv => whnf))); (refine And.intro (by decide +kernel) ?_; apply Exists.intro; apply And.intro; focus ((repeat' ((conv => whnf); first | exact trivial | refine Wo ?_ | refine Lt (by decide) ?_ | refine Lf (by decide) ?_ | refine Cl (by decide) ?_ | refine Cr (by decide) ?_ | refine Both.mk ?_ ?_ | (first | exact Wk.frc (keep := [0, 2, 3]) (N := 31) (by (conv => whnf); first | done | exact rfl) | refine ⟨by rw [e2]; omega, by rw [e2]; omega, ?_⟩) | refine ⟨_, rfl, ?_⟩ | refine Mi rfl ?_ | (refine And.intro ?_ ?_))); all_goals (first | decide | rfl | assumption | omega | (dsimp only; omega) | (unfold maxLen; omega) | ((try dsimp only [maxLen]); simp only [List.length_append, List.length_cons, List.length_nil, List.length_map, List.length_range, List.length_set, List.length_replicate]; omega) | ((try dsimp only [maxLen]); simp only [IntKind.wrap_i64, IntKind.wrap_u64, List.length_append, List.length_cons, List.length_nil, List.length_map, List.length_range, List.length_set, List.length_replicate]; omega) | ((try dsimp only [maxLen]); simp only [List.length_append, List.length_cons, List.length_nil, List.length_map, List.length_range, List.length_set, List.length_replicate] at *; omega)))); ((conv => whnf); repeat (refine Gq ?_; (conv => whnf))))) | refine ⟨_, rfl, ?_⟩ | refine Mi rfl ?_ | (refine And.intro ?_ ?_))); all_goals (first | decide | rfl | assumption | omega | (dsimp only; omega) | (unfold maxLen; omega) | ((try dsimp only [maxLen]); simp only [List.length_append, List.length_cons, List.length_nil, List.length_map, List.length_range, List.length_set, List.length_replicate]; omega) | ((try dsimp only [maxLen]); simp only [IntKind.wrap_i64, IntKind.wrap_u64, List.length_append, List.length_cons, List.length_nil, List.length_map, List.length_range, List.length_set, List.length_replicate]; omega) | ((try dsimp only [maxLen]); simp only [List.length_append, List.length_cons, List.length_nil, List.length_map, List.length_range, List.length_set, List.length_replicate] at *; omega))))
          ((conv => whnf); repeat (refine Gq ?_; (conv => whnf)))
          refine litE (show (!(((r, (0 : Int)) : ByteArray × Int).2 == 0)) = false from rfl) ?_
          ((conv => whnf); repeat (refine Gq ?_; (conv => whnf)))
          ((conv => whnf); refine Hc.inl Am.hT Am.hm Tryz.func96 rfl (by decide) ⟨[], [0, 1], 14⟩ ?_; ((conv => whnf); repeat (refine Gq ?_; (conv => whnf))))
          refine ⟨by rw [e2]; unfold maxLen; omega, by rw [e2]; dsimp only; omega, ?_⟩
          ((conv => whnf); repeat (refine Gq ?_; (conv => whnf)))
          refine ih (i + 1, p ++ [r]) _ ⟨by dsimp only; omega, by dsimp only; omega, by dsimp only; rw [List.length_append, List.length_singleton]; omega, fun c hc => ?_, by dsimp only; rw [List.length_append, List.length_singleton]; rw [hL] at hdp; exact (congrArg (deepC _ _) (by omega)).trans hdp, ho'⟩ ?_
          · rcases List.mem_append.1 hc with h | h
            · exact hm c (by simp [h])
            · rw [List.mem_singleton.1 h]; exact hsm rfl
          dsimp only
          unfold onQ
          (refine Wk.pin [0, 1, 7] _ _ ?_ ?_ rfl rfl (by decide) rfl rfl <;> (repeat' first | exact trivial | rfl | (refine And.intro ?_ ?_)))
          · exact inE (i64n (by simp) (by omega))
          · exact arE (by rw [e2, e1, Int.toNat_natCast, Int.toNat_natCast, Nat.mul_one, Nat.mul_one, List.take_take, Nat.min_eq_left (by omega)]; simp) (by rw [e2]; simp)
        · rw [if_neg h0] at ho'
          rw [ho']
          ((conv => whnf); repeat (refine Gq ?_; (conv => whnf)))
          refine Lt t4 ?_
          ((conv => whnf); repeat (refine Gq ?_; (conv => whnf)))
          refine ⟨by omega, by omega, ?_⟩
          ((conv => whnf); repeat (refine Gq ?_; (conv => whnf)))
          refine fm_ld opC_len hx ?_
          ((conv => whnf); repeat (refine Gq ?_; (conv => whnf)))
          refine litE u1 ?_
          ((conv => whnf); repeat (refine Gq ?_; (conv => whnf)))
          refine litE u2 ?_
          ((conv => whnf); repeat (refine Gq ?_; (conv => whnf)))
          refine litE u3 ?_
          ((conv => whnf); repeat (refine Gq ?_; (conv => whnf)))
          (((conv => whnf); refine Hc.inl Am.hT Am.hm Tryz.func94 rfl (by decide) ⟨[(1, .first 0 (.first 1 (.first 2 (.first 4 (.first 5 (.first 6 (.load 3 [10, 11, 12] (.load 7 [8, 9, 10, 11, 12] (.first 8 (.first 9 (.first 10 (.load 11 [12] (.first 12 .done))))))))))))), (2, .first 0 (.first 1 (.first 2 (.first 3 (.first 5 (.first 6 (.first 7 (.load 4 [11, 12, 13, 14] (.load 8 [9, 10, 11, 12, 13, 14] (.first 9 (.first 10 (.alt 11 (.first 12 (.first 13 (.alt 14 .done .nil))) .nil))))))))))))], [0, 2, 3], 31⟩ ?_; ((conv => whnf); repeat (refine Gq ?_; (conv => whnf)))); (refine And.intro (by decide +kernel) ?_; apply Exists.intro; apply And.intro; focus ((repeat' ((conv => whnf); first | exact trivial | refine Wo ?_ | refine Lt (by decide) ?_ | refine Lf (by decide) ?_ | refine Cl (by decide) ?_ | refine Cr (by decide) ?_ | refine Both.mk ?_ ?_ | (first | exact Wk.frc (keep := [0, 2, 3]) (N := 31) (by (conv => whnf); first | done | exact rfl) | refine ⟨_, x1, ?_⟩ | refine ⟨by rw [e1]; omega, by rw [e1]; omega, ?_⟩) | refine ⟨_, rfl, ?_⟩ | refine Mi rfl ?_ | (refine And.intro ?_ ?_))); all_goals (first | decide | rfl | assumption | omega | (dsimp only; omega) | (unfold maxLen; omega) | ((try dsimp only [maxLen]); simp only [List.length_append, List.length_cons, List.length_nil, List.length_map, List.length_range, List.length_set, List.length_replicate]; omega) | ((try dsimp only [maxLen]); simp only [IntKind.wrap_i64, IntKind.wrap_u64, List.length_append, List.length_cons, List.length_nil, List.length_map, List.length_range, List.length_set, List.length_replicate]; omega) | ((try dsimp only [maxLen]); simp only [List.length_append, List.length_cons, List.length_nil, List.length_map, List.length_range, List.length_set, List.length_replicate] at *; omega)))); ((conv => whnf); repeat (refine Gq ?_; (conv => whnf))); (refine And.intro (by decide +kernel) ?_; apply Exists.intro; apply And.intro; focus ((repeat' ((conv => whnf); first | exact trivial | refine Wo ?_ | refine Lt (by decide) ?_ | refine Lf (by decide) ?_ | refine Cl (by decide) ?_ | refine Cr (by decide) ?_ | refine Both.mk ?_ ?_ | (first | exact Wk.frc (keep := [0, 2, 3]) (N := 31) (by (conv => whnf); first | done | exact rfl) | refine ⟨by rw [e1]; omega, by rw [e1]; omega, ?_⟩) | refine ⟨_, rfl, ?_⟩ | refine Mi rfl ?_ | (refine And.intro ?_ ?_))); all_goals (first | decide | rfl | assumption | omega | (dsimp only; omega) | (unfold maxLen; omega) | ((try dsimp only [maxLen]); simp only [List.length_append, List.length_cons, List.length_nil, List.length_map, List.length_range, List.length_set, List.length_replicate]; omega) | ((try dsimp only [maxLen]); simp only [IntKind.wrap_i64, IntKind.wrap_u64, List.length_append, List.length_cons, List.length_nil, List.length_map, List.length_range, List.length_set, List.length_replicate]; omega) | ((try dsimp only [maxLen]); simp only [List.length_append, List.length_cons, List.length_nil, List.length_map, List.length_range, List.length_set, List.length_replicate] at *; omega)))); ((conv => whnf); repeat (refine Gq ?_; (conv => whnf))))
          (refine And.intro (by decide +kernel) ?_; apply Exists.intro; apply And.intro; focus ((repeat' ((conv => whnf); first | exact trivial | refine Wo ?_ | refine Lt (by decide) ?_ | refine Lf (by decide) ?_ | refine Cl (by decide) ?_ | refine Cr (by decide) ?_ | refine Both.mk ?_ ?_ | (first | exact Wk.frc (keep := [0, 1, 2, 3, 4, 6, 7, 8, 9, 12, 13, 14, 15, 19, 20, 26, 30, 41, 51]) (N := 57) (by (conv => whnf); first | done | exact rfl) | (refine HfA hD ?_) | (((conv => whnf); refine Hc.inl Am.hT Am.hm Tryz.func94 rfl (by decide) ⟨[(1, .first 0 (.first 1 (.first 2 (.first 4 (.first 5 (.first 6 (.load 3 [10, 11, 12] (.load 7 [8, 9, 10, 11, 12] (.first 8 (.first 9 (.first 10 (.load 11 [12] (.first 12 .done))))))))))))), (2, .first 0 (.first 1 (.first 2 (.first 3 (.first 5 (.first 6 (.first 7 (.load 4 [11, 12, 13, 14] (.load 8 [9, 10, 11, 12, 13, 14] (.first 9 (.first 10 (.alt 11 (.first 12 (.first 13 (.alt 14 .done .nil))) .nil))))))))))))], [0, 2, 3], 31⟩ ?_; ((conv => whnf); repeat (refine Gq ?_; (conv => whnf)))); (refine And.intro (by decide +kernel) ?_; apply Exists.intro; apply And.intro; focus ((repeat' ((conv => whnf); first | exact trivial | refine Wo ?_ | refine Lt (by decide) ?_ | refine Lf (by decide) ?_ | refine Cl (by decide) ?_ | refine Cr (by decide) ?_ | refine Both.mk ?_ ?_ | (first | exact Wk.frc (keep := [0, 2, 3]) (N := 31) (by (conv => whnf); first | done | exact rfl) | refine ⟨_, x2, ?_⟩ | refine ⟨by rw [e2]; omega, by rw [e2]; omega, ?_⟩) | refine ⟨_, rfl, ?_⟩ | refine Mi rfl ?_ | (refine And.intro ?_ ?_))); all_goals (first | decide | rfl | assumption | omega | (dsimp only; omega) | (unfold maxLen; omega) | ((try dsimp only [maxLen]); simp only [List.length_append, List.length_cons, List.length_nil, List.length_map, List.length_range, List.length_set, List.length_replicate]; omega) | ((try dsimp only [maxLen]); simp only [IntKind.wrap_i64, IntKind.wrap_u64, List.length_append, List.length_cons, List.length_nil, List.length_map, List.length_range, List.length_set, List.length_replicate]; omega) | ((try dsimp only [maxLen]); simp only [List.length_append, List.length_cons, List.length_nil, List.length_map, List.length_range, List.length_set, List.length_replicate] at *; omega)))); ((conv => whnf); repeat (refine Gq ?_; (conv => whnf))); (refine And.intro (by decide +kernel) ?_; apply Exists.intro; apply And.intro; focus ((repeat' ((conv => whnf); first | exact trivial | refine Wo ?_ | refine Lt (by decide) ?_ | refine Lf (by decide) ?_ | refine Cl (by decide) ?_ | refine Cr (by decide) ?_ | refine Both.mk ?_ ?_ | (first | exact Wk.frc (keep := [0, 2, 3]) (N := 31) (by (conv => whnf); first | done | exact rfl) | refine ⟨by rw [e2]; omega, by rw [e2]; omega, ?_⟩) | refine ⟨_, rfl, ?_⟩ | refine Mi rfl ?_ | (refine And.intro ?_ ?_))); all_goals (first | decide | rfl | assumption | omega | (dsimp only; omega) | (unfold maxLen; omega) | ((try dsimp only [maxLen]); simp only [List.length_append, List.length_cons, List.length_nil, List.length_map, List.length_range, List.length_set, List.length_replicate]; omega) | ((try dsimp only [maxLen]); simp only [IntKind.wrap_i64, IntKind.wrap_u64, List.length_append, List.length_cons, List.length_nil, List.length_map, List.length_range, List.length_set, List.length_replicate]; omega) | ((try dsimp only [maxLen]); simp only [List.length_append, List.length_cons, List.length_nil, List.length_map, List.length_range, List.length_set, List.length_replicate] at *; omega)))); ((conv => whnf); repeat (refine Gq ?_; (conv => whnf))))) | refine ⟨_, rfl, ?_⟩ | refine Mi rfl ?_ | (refine And.intro ?_ ?_))); all_goals (first | decide | rfl | assumption | omega | (dsimp only; omega) | (unfold maxLen; omega) | ((try dsimp only [maxLen]); simp only [List.length_append, List.length_cons, List.length_nil, List.length_map, List.length_range, List.length_set, List.length_replicate]; omega) | ((try dsimp only [maxLen]); simp only [IntKind.wrap_i64, IntKind.wrap_u64, List.length_append, List.length_cons, List.length_nil, List.length_map, List.length_range, List.length_set, List.length_replicate]; omega) | ((try dsimp only [maxLen]); simp only [List.length_append, List.length_cons, List.length_nil, List.length_map, List.length_range, List.length_set, List.length_replicate] at *; omega))))
          ((conv => whnf); repeat (refine Gq ?_; (conv => whnf)))
          refine litE (t0 h0) ?_
          ((conv => whnf); repeat (refine Gq ?_; (conv => whnf)))
          exact TeA
      · have hz : needsZ ins.length ((kd, sl), tx) = 1 ∧ sgB moS tx = true ∧ kd = 4 := by
          unfold needsZ at hn0 ⊢
          dsimp only at hn0 ⊢
          have g1 : ¬ (kd = 1 ∧ 0 ≤ sl ∧ sl < ins.length ∨ kd = 2 ∧ mayB tx = true) := by rintro (⟨h, _⟩ | ⟨h, _⟩); exact h1 h; exact h2 h
          rw [if_neg g1, if_neg (by rintro ⟨h, _⟩; exact h3 h)] at hn0 ⊢
          by_cases hmt : kd = 4 ∧ sgB moS tx = true
          · exact ⟨if_pos hmt, hmt.2, hmt.1⟩
          · rw [if_neg hmt] at hn0
            exact absurd (by decide) hn0
        obtain ⟨hz1, hz2, rfl⟩ := hz
        rw [hz1] at hdp hn1
        obtain ⟨p, a, rfl⟩ : ∃ p a, st = p ++ [a] := by
          rcases snoc_cases st with rfl | h
          · simp at hn1
          · exact h
        have hL : (p ++ [a]).length = p.length + 1 := by simp
        have e1 : IntKind.i64.wrap ((((p ++ [a]).length : Nat) : Int) - 1) = ((p.length : Nat) : Int) := by rw [hL]; exact i64n (by omega) (by omega)
        have x1 : ((p ++ [a]).map sD)[(IntKind.i64.wrap ((((p ++ [a]).length : Nat) : Int) - 1)).toNat * 1]? = some (sD a) := by rw [e1, Int.toNat_natCast, Nat.mul_one]; simp
        have ma := hm a (by simp)
        have hD := smo_runs hz2 ma
        have hsm := smo_may tx ma
        have ho' : oneC ins k ops [] = oneC ins k (ops.drop (i + 1)) (p ++ [smo tx a]) := by
          rw [ho]
          dsimp only
          rw [if_neg (by decide), if_neg (by decide), if_neg (by decide), List.dropLast_concat]
          simp
        generalize smo tx a = r at *
        have u1 : ((((4 : Int), sl), tx).1.1 == 1) = false := rfl
        have u2 : ((((4 : Int), sl), tx).1.1 == 2) = false := rfl
        have u3 : ((((4 : Int), sl), tx).1.1 == 3) = false := rfl
        have u4 : ((((4 : Int), sl), tx).1.1 == 4) = true := rfl
        ((conv => whnf); repeat (refine Gq ?_; (conv => whnf)))
        refine Lt t4 ?_
        ((conv => whnf); repeat (refine Gq ?_; (conv => whnf)))
        refine ⟨by omega, by omega, ?_⟩
        ((conv => whnf); repeat (refine Gq ?_; (conv => whnf)))
        refine fm_ld opC_len hx ?_
        ((conv => whnf); repeat (refine Gq ?_; (conv => whnf)))
        refine litE u1 ?_
        ((conv => whnf); repeat (refine Gq ?_; (conv => whnf)))
        refine litE u2 ?_
        ((conv => whnf); repeat (refine Gq ?_; (conv => whnf)))
        refine litE u3 ?_
        ((conv => whnf); repeat (refine Gq ?_; (conv => whnf)))
        refine litE u4 ?_
        ((conv => whnf); repeat (refine Gq ?_; (conv => whnf)))
        (refine And.intro (by decide +kernel) ?_; apply Exists.intro; apply And.intro; focus ((repeat' ((conv => whnf); first | exact trivial | refine Wo ?_ | refine Lt (by decide) ?_ | refine Lf (by decide) ?_ | refine Cl (by decide) ?_ | refine Cr (by decide) ?_ | refine Both.mk ?_ ?_ | (first | exact Wk.frc (keep := [0, 1, 2, 3, 4, 6, 7, 8, 9, 12, 13, 14, 15, 19, 20, 26, 30, 41, 51]) (N := 57) (by (conv => whnf); first | done | exact rfl) | (refine HfA hD ?_) | (((conv => whnf); refine Hc.inl Am.hT Am.hm Tryz.func94 rfl (by decide) ⟨[(1, .first 0 (.first 1 (.first 2 (.first 4 (.first 5 (.first 6 (.load 3 [10, 11, 12] (.load 7 [8, 9, 10, 11, 12] (.first 8 (.first 9 (.first 10 (.load 11 [12] (.first 12 .done))))))))))))), (2, .first 0 (.first 1 (.first 2 (.first 3 (.first 5 (.first 6 (.first 7 (.load 4 [11, 12, 13, 14] (.load 8 [9, 10, 11, 12, 13, 14] (.first 9 (.first 10 (.alt 11 (.first 12 (.first 13 (.alt 14 .done .nil))) .nil))))))))))))], [0, 2, 3], 31⟩ ?_; ((conv => whnf); repeat (refine Gq ?_; (conv => whnf)))); (refine And.intro (by decide +kernel) ?_; apply Exists.intro; apply And.intro; focus ((repeat' ((conv => whnf); first | exact trivial | refine Wo ?_ | refine Lt (by decide) ?_ | refine Lf (by decide) ?_ | refine Cl (by decide) ?_ | refine Cr (by decide) ?_ | refine Both.mk ?_ ?_ | (first | exact Wk.frc (keep := [0, 2, 3]) (N := 31) (by (conv => whnf); first | done | exact rfl) | refine ⟨_, x1, ?_⟩ | refine ⟨by rw [e1]; omega, by rw [e1]; omega, ?_⟩) | refine ⟨_, rfl, ?_⟩ | refine Mi rfl ?_ | (refine And.intro ?_ ?_))); all_goals (first | decide | rfl | assumption | omega | (dsimp only; omega) | (unfold maxLen; omega) | ((try dsimp only [maxLen]); simp only [List.length_append, List.length_cons, List.length_nil, List.length_map, List.length_range, List.length_set, List.length_replicate]; omega) | ((try dsimp only [maxLen]); simp only [IntKind.wrap_i64, IntKind.wrap_u64, List.length_append, List.length_cons, List.length_nil, List.length_map, List.length_range, List.length_set, List.length_replicate]; omega) | ((try dsimp only [maxLen]); simp only [List.length_append, List.length_cons, List.length_nil, List.length_map, List.length_range, List.length_set, List.length_replicate] at *; omega)))); ((conv => whnf); repeat (refine Gq ?_; (conv => whnf))); (refine And.intro (by decide +kernel) ?_; apply Exists.intro; apply And.intro; focus ((repeat' ((conv => whnf); first | exact trivial | refine Wo ?_ | refine Lt (by decide) ?_ | refine Lf (by decide) ?_ | refine Cl (by decide) ?_ | refine Cr (by decide) ?_ | refine Both.mk ?_ ?_ | (first | exact Wk.frc (keep := [0, 2, 3]) (N := 31) (by (conv => whnf); first | done | exact rfl) | refine ⟨by rw [e1]; omega, by rw [e1]; omega, ?_⟩) | refine ⟨_, rfl, ?_⟩ | refine Mi rfl ?_ | (refine And.intro ?_ ?_))); all_goals (first | decide | rfl | assumption | omega | (dsimp only; omega) | (unfold maxLen; omega) | ((try dsimp only [maxLen]); simp only [List.length_append, List.length_cons, List.length_nil, List.length_map, List.length_range, List.length_set, List.length_replicate]; omega) | ((try dsimp only [maxLen]); simp only [IntKind.wrap_i64, IntKind.wrap_u64, List.length_append, List.length_cons, List.length_nil, List.length_map, List.length_range, List.length_set, List.length_replicate]; omega) | ((try dsimp only [maxLen]); simp only [List.length_append, List.length_cons, List.length_nil, List.length_map, List.length_range, List.length_set, List.length_replicate] at *; omega)))); ((conv => whnf); repeat (refine Gq ?_; (conv => whnf))))) | refine ⟨_, rfl, ?_⟩ | refine Mi rfl ?_ | (refine And.intro ?_ ?_))); all_goals (first | decide | rfl | assumption | omega | (dsimp only; omega) | (unfold maxLen; omega) | ((try dsimp only [maxLen]); simp only [List.length_append, List.length_cons, List.length_nil, List.length_map, List.length_range, List.length_set, List.length_replicate]; omega) | ((try dsimp only [maxLen]); simp only [IntKind.wrap_i64, IntKind.wrap_u64, List.length_append, List.length_cons, List.length_nil, List.length_map, List.length_range, List.length_set, List.length_replicate]; omega) | ((try dsimp only [maxLen]); simp only [List.length_append, List.length_cons, List.length_nil, List.length_map, List.length_range, List.length_set, List.length_replicate] at *; omega))))
        ((conv => whnf); repeat (refine Gq ?_; (conv => whnf)))
        refine litE (show (!(((r, (0 : Int)) : ByteArray × Int).2 == 0)) = false from rfl) ?_
        ((conv => whnf); repeat (refine Gq ?_; (conv => whnf)))
        ((conv => whnf); refine Hc.inl Am.hT Am.hm Tryz.func96 rfl (by decide) ⟨[], [0, 1], 14⟩ ?_; ((conv => whnf); repeat (refine Gq ?_; (conv => whnf))))
        refine ⟨by rw [e1]; unfold maxLen; omega, by rw [e1]; dsimp only; omega, ?_⟩
        ((conv => whnf); repeat (refine Gq ?_; (conv => whnf)))
        refine ih (i + 1, p ++ [r]) _ ⟨by dsimp only; omega, by dsimp only; omega, by dsimp only; rw [List.length_append, List.length_singleton]; omega, fun c hc => ?_, by dsimp only; rw [List.length_append, List.length_singleton]; rw [hL] at hdp; exact (congrArg (deepC _ _) (by omega)).trans hdp, ho'⟩ ?_
        · rcases List.mem_append.1 hc with h | h
          · exact hm c (by simp [h])
          · rw [List.mem_singleton.1 h]; exact hsm
        dsimp only
        unfold onQ
        (refine Wk.pin [0, 1, 6] _ _ ?_ ?_ rfl rfl (by decide) rfl rfl <;> (repeat' first | exact trivial | rfl | (refine And.intro ?_ ?_)))
        · exact inE (i64n (by simp) (by omega))
        · exact arE (by rw [e1]; simp) (by rw [e1]; simp)
    · have t4 : decide ((i : Int) < (ops.length : Int)) = false := by simpa using hlt
      rw [List.drop_eq_nil_of_le (by omega), deepC] at hdp
      rw [List.drop_eq_nil_of_le (by omega), oneC] at ho
      have hL : st.length = 1 := by have := Option.some.inj hdp; omega
      obtain ⟨a, rfl⟩ := List.length_eq_one_iff.1 hL
      have e1 : IntKind.i64.wrap (((([a] : List ByteArray).length : Nat) : Int) - 1) = ((0 : Nat) : Int) := i64n (by simp) (by omega)
      have x1 : (([a] : List ByteArray).map sD)[(IntKind.i64.wrap (((([a] : List ByteArray).length : Nat) : Int) - 1)).toNat * 1]? = some (sD a) := by rw [e1]; rfl
      rw [ho]
      ((conv => whnf); repeat (refine Gq ?_; (conv => whnf)))
      refine Lf t4 ?_
      ((conv => whnf); repeat (refine Gq ?_; (conv => whnf)))
      (((conv => whnf); refine Hc.inl Am.hT Am.hm Tryz.func94 rfl (by decide) ⟨[(1, .first 0 (.first 1 (.first 2 (.first 4 (.first 5 (.first 6 (.load 3 [10, 11, 12] (.load 7 [8, 9, 10, 11, 12] (.first 8 (.first 9 (.first 10 (.load 11 [12] (.first 12 .done))))))))))))), (2, .first 0 (.first 1 (.first 2 (.first 3 (.first 5 (.first 6 (.first 7 (.load 4 [11, 12, 13, 14] (.load 8 [9, 10, 11, 12, 13, 14] (.first 9 (.first 10 (.alt 11 (.first 12 (.first 13 (.alt 14 .done .nil))) .nil))))))))))))], [0, 2, 3], 31⟩ ?_; ((conv => whnf); repeat (refine Gq ?_; (conv => whnf)))); (refine And.intro (by decide +kernel) ?_; apply Exists.intro; apply And.intro; focus ((repeat' ((conv => whnf); first | exact trivial | refine Wo ?_ | refine Lt (by decide) ?_ | refine Lf (by decide) ?_ | refine Cl (by decide) ?_ | refine Cr (by decide) ?_ | refine Both.mk ?_ ?_ | (first | exact Wk.frc (keep := [0, 2, 3]) (N := 31) (by (conv => whnf); first | done | exact rfl) | refine ⟨_, x1, ?_⟩ | refine ⟨by rw [e1]; omega, by rw [e1]; omega, ?_⟩) | refine ⟨_, rfl, ?_⟩ | refine Mi rfl ?_ | (refine And.intro ?_ ?_))); all_goals (first | decide | rfl | assumption | omega | (dsimp only; omega) | (unfold maxLen; omega) | ((try dsimp only [maxLen]); simp only [List.length_append, List.length_cons, List.length_nil, List.length_map, List.length_range, List.length_set, List.length_replicate]; omega) | ((try dsimp only [maxLen]); simp only [IntKind.wrap_i64, IntKind.wrap_u64, List.length_append, List.length_cons, List.length_nil, List.length_map, List.length_range, List.length_set, List.length_replicate]; omega) | ((try dsimp only [maxLen]); simp only [List.length_append, List.length_cons, List.length_nil, List.length_map, List.length_range, List.length_set, List.length_replicate] at *; omega)))); ((conv => whnf); repeat (refine Gq ?_; (conv => whnf))); (refine And.intro (by decide +kernel) ?_; apply Exists.intro; apply And.intro; focus ((repeat' ((conv => whnf); first | exact trivial | refine Wo ?_ | refine Lt (by decide) ?_ | refine Lf (by decide) ?_ | refine Cl (by decide) ?_ | refine Cr (by decide) ?_ | refine Both.mk ?_ ?_ | (first | exact Wk.frc (keep := [0, 2, 3]) (N := 31) (by (conv => whnf); first | done | exact rfl) | refine ⟨by rw [e1]; omega, by rw [e1]; omega, ?_⟩) | refine ⟨_, rfl, ?_⟩ | refine Mi rfl ?_ | (refine And.intro ?_ ?_))); all_goals (first | decide | rfl | assumption | omega | (dsimp only; omega) | (unfold maxLen; omega) | ((try dsimp only [maxLen]); simp only [List.length_append, List.length_cons, List.length_nil, List.length_map, List.length_range, List.length_set, List.length_replicate]; omega) | ((try dsimp only [maxLen]); simp only [IntKind.wrap_i64, IntKind.wrap_u64, List.length_append, List.length_cons, List.length_nil, List.length_map, List.length_range, List.length_set, List.length_replicate]; omega) | ((try dsimp only [maxLen]); simp only [List.length_append, List.length_cons, List.length_nil, List.length_map, List.length_range, List.length_set, List.length_replicate] at *; omega)))); ((conv => whnf); repeat (refine Gq ?_; (conv => whnf))))
      exact TeA
  · refine (Wk.virtB 1 0 9 1 133 _ rfl rfl).trans ?_
    unfold onQ
    (refine Wk.to _ _ ?_ ?_ <;> (repeat' first | exact trivial | rfl | (refine And.intro ?_ ?_)))
end Go.Proofs.YtkhgpnbhnipndaaGreatDoor.Am
end
section
/- Frames: what came out, the run to the end, whether two are the same. -/
namespace Go.Proofs.YtkhgpnbhnipndaaGreatDoor.Am
open Go Go.RowKit Go.Proofs.YtkhgpnbhnipndaaGreatDoor.Sh
open Go.Proofs.YtkhgpnbhnipndaaGreatDoor.Nm (numS)
set_option linter.unusedVariables false
set_option linter.unusedSimpArgs false
set_option maxRecDepth 100000
set_option maxHeartbeats 8000000
theorem pos_b {α : Type} (l : List α) : decide (((l.length : Nat) : Int) > 0) = !decide (l = []) := by
  cases l with
  | nil => rfl
  | cons a l =>
    have h1 : decide ((((a :: l).length : Nat) : Int) > 0) = true := decide_eq_true (by rw [List.length_cons]; omega)
    rw [h1]
    rfl
theorem val1_runs (v : ValL) : Runs Tryz.prog 52 [vD2 v] (bD (!decide (v.1 = []))) := by
  have e := pos_b v.1
  refine Runs.wp Am.hT Am.hm Tryz.func52 rfl (by decide) ⟨[], [0, 1, 2], 7⟩ ?_; ((conv => whnf); repeat (refine Gq ?_; (conv => whnf)))
  refine litE e ?_
  ((conv => whnf); repeat (refine Gq ?_; (conv => whnf)))
  exact TeA
def valF (f : FrL) : ValL × Bool :=
  if f.k < f.n then (([], []), false) else if f.fold ≠ ByteArray.empty then (([], [f.acc]), true) else if f.ins.any (fun v => !decide (v.1 = [])) = true then (([(f.out.length : Int)], f.out), true) else (([], f.out), true)
theorem val_runs (f : FrL) (hi : f.ins.length ≤ 100000000) (ho : f.out.length ≤ 100000000) : Runs Tryz.prog 19 [frD f] (.tup [vD2 (valF f).1, bD (valF f).2]) := by
  obtain ⟨ops, fold, ins, n, k, out, acc⟩ := f
  show Runs Tryz.prog _ [frE ops fold ins n k out acc] _
  have d := done_runs ⟨ops, fold, ins, n, k, out, acc⟩
  replace d : Runs Tryz.prog _ [frE ops fold ins n k out acc] (bD (decide (n ≤ k))) := d
  have c := contFV_runs (l := ins) (p := fun v => !decide (v.1 = [])) (F := 52) (by simp at hi; omega) (fun v _ => val1_runs v)
  have t3 := emp_s fold
  have v1 := scalar_runs acc
  have v2 := vector_runs out (by simp at ho; omega)
  have v3 := cloneS_runs out (by simp at ho; omega)
  unfold valF
  dsimp only
  by_cases hk : k < n
  · rw [decide_eq_false (by omega)] at d
    rw [if_pos hk]
    refine Runs.wp Am.hT Am.hm Tryz.func19 rfl (by decide) ⟨[], [0, 1, 2, 3, 4, 9, 17], 28⟩ ?_; ((conv => whnf); repeat (refine Gq ?_; (conv => whnf)))
    ((conv => whnf); (refine HfA d ?_); ((conv => whnf); repeat (refine Gq ?_; (conv => whnf))))
    exact TeA
  · rw [decide_eq_true (by omega)] at d
    rw [if_neg hk]
    by_cases hf : fold = ByteArray.empty
    · rw [decide_eq_true hf] at t3
      rw [if_neg (by simp [hf])]
      generalize (ins.any fun v => !decide (v.1 = [])) = z at *
      cases z with
      | true =>
        rw [if_pos rfl]
        refine Runs.wp Am.hT Am.hm Tryz.func19 rfl (by decide) ⟨[], [0, 1, 2, 3, 4, 9, 17], 28⟩ ?_; ((conv => whnf); repeat (refine Gq ?_; (conv => whnf)))
        ((conv => whnf); (refine HfA d ?_); ((conv => whnf); repeat (refine Gq ?_; (conv => whnf))))
        refine litE t3 ?_
        ((conv => whnf); repeat (refine Gq ?_; (conv => whnf)))
        ((conv => whnf); (refine HfA c ?_); ((conv => whnf); repeat (refine Gq ?_; (conv => whnf))))
        ((conv => whnf); (refine HrA v2 ?_); ((conv => whnf); repeat (refine Gq ?_; (conv => whnf))))
        exact TeA
      | false =>
        rw [if_neg (by simp)]
        refine Runs.wp Am.hT Am.hm Tryz.func19 rfl (by decide) ⟨[], [0, 1, 2, 3, 4, 9, 17], 28⟩ ?_; ((conv => whnf); repeat (refine Gq ?_; (conv => whnf)))
        ((conv => whnf); (refine HfA d ?_); ((conv => whnf); repeat (refine Gq ?_; (conv => whnf))))
        refine litE t3 ?_
        ((conv => whnf); repeat (refine Gq ?_; (conv => whnf)))
        ((conv => whnf); (refine HfA c ?_); ((conv => whnf); repeat (refine Gq ?_; (conv => whnf))))
        ((conv => whnf); (refine HrA v3 ?_); ((conv => whnf); repeat (refine Gq ?_; (conv => whnf))))
        exact TeA
    · rw [decide_eq_false hf] at t3
      rw [if_pos hf]
      refine Runs.wp Am.hT Am.hm Tryz.func19 rfl (by decide) ⟨[], [0, 1, 2, 3, 4, 9, 17], 28⟩ ?_; ((conv => whnf); repeat (refine Gq ?_; (conv => whnf)))
      ((conv => whnf); (refine HfA d ?_); ((conv => whnf); repeat (refine Gq ?_; (conv => whnf))))
      refine litE t3 ?_
      ((conv => whnf); repeat (refine Gq ?_; (conv => whnf)))
      ((conv => whnf); (refine HrA v1 ?_); ((conv => whnf); repeat (refine Gq ?_; (conv => whnf))))
      exact TeA
end Go.Proofs.YtkhgpnbhnipndaaGreatDoor.Am
end
