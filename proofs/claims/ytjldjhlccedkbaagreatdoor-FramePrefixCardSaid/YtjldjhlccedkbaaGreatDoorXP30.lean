/- What the law leans on, part 31: declarations of several texts of ours, in their order. -/
import Derived.Test.YtjldjhlccedkbaaGreatDoorXP29
section
/- FramePrefix: other elements behind. -/
namespace Go.Proofs.YtjldjhlccedkbaaGreatDoor.Am
open Go Go.RowKit Go.Proofs.YtjldjhlccedkbaaGreatDoor.Sh
open Go.Proofs.YtjldjhlccedkbaaGreatDoor.Nm (numS)
set_option linter.unusedVariables false
set_option linter.unusedSimpArgs false
set_option maxRecDepth 100000
set_option maxHeartbeats 8000000
/-- e, from n on and up to j as o has it -/
def ovr (e o : List ByteArray) (n j : Nat) : List ByteArray := (List.range e.length).map fun i => if n ≤ i ∧ i < j ∧ i < o.length then o.getD i ByteArray.empty else e.getD i ByteArray.empty
theorem ovr_len (e o : List ByteArray) (n j : Nat) : (ovr e o n j).length = e.length := by simp [ovr]
theorem ovr_get {e o : List ByteArray} {n j i : Nat} (h : i < e.length) : (ovr e o n j)[i]? = some (if n ≤ i ∧ i < j ∧ i < o.length then o.getD i ByteArray.empty else e.getD i ByteArray.empty) := by
  unfold ovr
  rw [List.getElem?_map, List.getElem?_range h]
  rfl
theorem ovr_self (e o : List ByteArray) (n : Nat) : ovr e o n n = e := by
  apply List.ext_getElem?
  intro i
  by_cases h : i < e.length
  · rw [ovr_get h, if_neg (by omega), List.getD_eq_getElem?_getD, List.getElem?_eq_getElem h]; rfl
  · rw [List.getElem?_eq_none (by rw [ovr_len]; omega), List.getElem?_eq_none (by omega)]
theorem ovr_next {e o : List ByteArray} {n j : Nat} (h : n ≤ j) (he : j < e.length) (ho : j < o.length) : ovr e o n (j + 1) = (ovr e o n j).set j o[j] := by
  apply List.ext_getElem?
  intro i
  by_cases hi : i < e.length
  · rw [ovr_get hi]
    by_cases hij : j = i
    · subst hij
      rw [if_pos ⟨h, by omega, ho⟩, List.getElem?_set_self (by rw [ovr_len]; exact he), List.getD_eq_getElem?_getD, List.getElem?_eq_getElem ho]
      rfl
    · rw [List.getElem?_set_ne hij, ovr_get hi]
      congr 1
      by_cases h1 : n ≤ i ∧ i < j ∧ i < o.length
      · rw [if_pos h1, if_pos ⟨h1.1, by omega, h1.2.2⟩]
      · rw [if_neg h1, if_neg (fun h2 => h1 ⟨h2.1, by omega, h2.2.2⟩)]
  · rw [List.getElem?_eq_none (by rw [ovr_len]; omega), List.getElem?_eq_none (by rw [List.length_set, ovr_len]; omega)]
theorem ovr_end {e o : List ByteArray} {n j : Nat} (h : e.length ≤ j ∨ o.length ≤ j) : ovr e o n j = ovr e o n e.length := by
  apply List.ext_getElem?
  intro i
  by_cases hi : i < e.length
  · rw [ovr_get hi, ovr_get hi]
    congr 1
    by_cases h1 : n ≤ i ∧ i < j ∧ i < o.length
    · rw [if_pos h1, if_pos ⟨h1.1, hi, h1.2.2⟩]
    · rw [if_neg h1, if_neg (fun h2 => h1 ⟨h2.1, by omega, h2.2.2⟩)]
  · rw [List.getElem?_eq_none (by rw [ovr_len]; omega), List.getElem?_eq_none (by rw [ovr_len]; omega)]
/-- an input, with others behind -/
def chV (o : List ByteArray) (n : Nat) (v : ValL) : ValL := if v.1.length = 1 then (v.1, ovr v.2 o n v.2.length) else v
theorem chV_1 (o : List ByteArray) (n : Nat) (v : ValL) : (chV o n v).1 = v.1 := by unfold chV; split <;> rfl
theorem chV_2 (o : List ByteArray) (n : Nat) (v : ValL) : (chV o n v).2.length = v.2.length := by
  unfold chV
  split
  · exact ovr_len _ _ _ _
  · rfl
theorem at_ch {o : List ByteArray} {n k : Nat} (ins : List ValL) (s : Nat) (h : k < n) : atF (ins.map (chV o n)) s k = atF ins s k := by
  have e : (ins.map (chV o n)).getD s ([], []) = chV o n (ins.getD s ([], [])) := by
    rw [List.getD_eq_getElem?_getD, List.getD_eq_getElem?_getD, List.getElem?_map]
    cases ins[s]? with
    | none => rfl
    | some v => rfl
  unfold atF
  rw [e]
  generalize ins.getD s ([], []) = v
  dsimp only
  rw [chV_2]
  unfold chV
  split
  · dsimp only
    by_cases hl : v.2.length = 0
    · rw [List.getD_eq_getElem?_getD, List.getD_eq_getElem?_getD, List.getElem?_eq_none (by rw [ovr_len]; omega), List.getElem?_eq_none (by omega)]
    · rw [List.getD_eq_getElem?_getD, ovr_get (by omega), if_neg (by omega)]
      rfl
  · rfl
theorem one_ch {o : List ByteArray} {n k : Nat} (ins : List ValL) (h : k < n) : ∀ (l : List OpL) (st : List ByteArray), oneC (ins.map (chV o n)) k l st = oneC ins k l st
  | [], _ => rfl
  | a :: l, st => by
    unfold oneC
    simp only [one_ch ins h l, at_ch ins _ h]
theorem scan_ch (o : List ByteArray) (n : Nat) : ∀ (ins : List ValL) (a b : Int), scanS (ins.map (chV o n)) a b = scanS ins a b
  | [], _, _ => rfl
  | v :: l, a, b => by
    rw [List.map_cons, scanS, scanS, chV_1]
    simp only [scan_ch o n l]
abbrev chF (o : List ByteArray) (n : Nat) (f : FrL) : FrL := { f with ins := f.ins.map (chV o n) }
theorem start_ch {ops : List OpL} {fold : ByteArray} {ins : List ValL} (o : List ByteArray) (n : Nat) (h : (startF ops fold ins).2 = 0) :
    startF ops fold (ins.map (chV o n)) = (frZ, 1) ∨ startF ops fold (ins.map (chV o n)) = (chF o n (startF ops fold ins).1, 0) := by
  have h' := h
  unfold startF at h' ⊢
  rw [List.length_map, scan_ch]
  by_cases hc : mayC ops fold ins.length = true ∧ (ins.any fun v => !good v.1 v.2) = false
  · rw [if_pos hc] at h' ⊢
    by_cases hg : ((ins.map (chV o n)).any fun v => !good v.1 v.2) = false
    · right
      rw [if_pos ⟨hc.1, hg⟩]
      split at h'
      · exact absurd (show (3 : Int) = 0 from h') (by decide)
      · rename_i m bad hs
        try dsimp only at h' ⊢
        by_cases hb : bad = 0
        · subst hb
          have hz : ¬ ((0 : Int) ≠ 0) := by decide
          rw [if_neg hz] at h'
          rw [if_neg hz, if_neg hz]
          by_cases hm : m = 0
          · rw [if_pos hm] at h'; exact absurd (show (5 : Int) = 0 from h') (by decide)
          · rw [if_neg hm, if_neg hm]
        · rw [if_pos hb] at h'; exact absurd h' hb
    · left
      rw [if_neg (fun h => hg h.2)]
  · rw [if_neg hc] at h'; exact absurd (show (1 : Int) = 0 from h') (by decide)
theorem step_ch {f : FrL} {o : List ByteArray} {n : Nat} (hf : FrOk f) (hg : FrOk (chF o n f)) (hk : f.k < n) : stepF (chF o n f) = (chF o n (stepF f).1, (stepF f).2) := by
  have h0 := hf.k0
  unfold stepF
  rw [hf.fine, hg.fine]
  dsimp only
  rw [one_ch f.ins (show f.k.toNat < n by omega)]
  by_cases hd : f.n ≤ f.k
  · rw [if_pos (.inl hd), if_pos (.inl hd)]
  · have hno : ¬ (f.n ≤ f.k ∨ (true = false)) := by rintro (h | h); exact hd h; cases h
    rw [if_neg hno, if_neg hno]
    generalize oneC f.ins f.k.toNat f.ops [] = x
    by_cases h1 : x.2 = 0
    · rw [if_pos h1, if_pos h1]
      by_cases h2 : f.fold = ByteArray.empty
      · rw [if_pos h2, if_pos h2]
      · rw [if_neg h2, if_neg h2]
        by_cases h3 : 0 < f.k
        · rw [if_pos h3, if_pos h3]
          by_cases h4 : (sd f.fold f.acc x.1).2 = 0
          · rw [if_pos h4, if_pos h4]
          · rw [if_neg h4, if_neg h4]
        · rw [if_neg h3, if_neg h3]
    · rw [if_neg h1, if_neg h1]
theorem start_frz {ops : List OpL} {fold : ByteArray} {ins : List ValL} (h : (startF ops fold ins).2 ≠ 0) : (startF ops fold ins).1 = frZ := by
  unfold startF at h ⊢
  split
  · rename_i hc
    rw [if_pos hc] at h
    split
    · rfl
    · rename_i n bad hs
      rw [hs] at h
      dsimp only at h
      split
      · rfl
      · rename_i hb
        rw [if_neg hb] at h
        split
        · rfl
        · rename_i hn
          rw [if_neg hn] at h
          exact absurd rfl h
  · rfl
section
variable {ops : List OpL} {fold : ByteArray} {ins : List ValL} {o : List ByteArray} {k : Int}
abbrev kD (k : Int) : D := .v (.int .u8 k)
theorem prefix_no1 (f1 : Runs Tryz.prog 27 [cD ops fold, rV ins] (bD false)) : Runs Tryz.prog 8 [cD ops fold, rV ins, rS o none, kD k] (bD true) := by
  have f0 := fshown_runs
  refine Runs.wp Go.Proofs.YtjldjhlccedkbaaGreatDoor.Am.hT Go.Proofs.YtjldjhlccedkbaaGreatDoor.Am.hm Tryz.func8 rfl (by decide) ⟨[(12, .first 0 (.first 1 (.first 2 (.first 3 (.first 6 (.first 7 (.first 8 (.first 9 (.alt 4 (.alt 5 (.alt 10 (.alt 11 (.first 12 (.alt 13 (.alt 14 .done .nil) .nil)) (.alt 13 (.alt 11 (.first 12 (.alt 14 .done .nil)) .nil) .nil)) (.alt 13 (.load 10 [11, 12, 14] (.alt 11 (.first 12 (.alt 14 .done .nil)) .nil)) .nil)) (.alt 10 (.alt 5 (.alt 11 (.first 12 (.alt 13 (.alt 14 .done .nil) .nil)) (.alt 13 (.alt 11 (.first 12 (.alt 14 .done .nil)) .nil) .nil)) (.alt 13 (.alt 5 (.alt 11 (.first 12 (.alt 14 .done .nil)) .nil) .nil) .nil)) (.alt 13 (.alt 5 (.load 10 [11, 12, 14] (.alt 11 (.first 12 (.alt 14 .done .nil)) .nil)) (.alt 10 (.alt 5 (.alt 11 (.first 12 (.alt 14 .done .nil)) .nil) .nil) .nil)) .nil))) (.alt 5 (.alt 4 (.alt 10 (.alt 11 (.first 12 (.alt 13 (.alt 14 .done .nil) .nil)) (.alt 13 (.alt 11 (.first 12 (.alt 14 .done .nil)) .nil) .nil)) (.alt 13 (.load 10 [11, 12, 14] (.alt 11 (.first 12 (.alt 14 .done .nil)) .nil)) .nil)) (.alt 10 (.alt 4 (.alt 11 (.first 12 (.alt 13 (.alt 14 .done .nil) .nil)) (.alt 13 (.alt 11 (.first 12 (.alt 14 .done .nil)) .nil) .nil)) (.alt 11 (.alt 4 (.first 12 (.alt 13 (.alt 14 .done .nil) .nil)) (.alt 13 (.load 4 [12, 14] (.first 12 (.alt 14 .done .nil))) .nil)) (.alt 13 (.alt 4 (.alt 11 (.first 12 (.alt 14 .done .nil)) .nil) (.alt 11 (.load 4 [12, 14] (.first 12 (.alt 14 .done .nil))) .nil)) .nil))) (.alt 13 (.load 10 [11, 12, 14] (.alt 4 (.alt 11 (.first 12 (.alt 14 .done .nil)) .nil) (.alt 11 (.load 4 [12, 14] (.first 12 (.alt 14 .done .nil))) .nil))) .nil))) (.alt 10 (.alt 4 (.alt 5 (.alt 11 (.first 12 (.alt 13 (.alt 14 .done .nil) .nil)) (.alt 13 (.alt 11 (.first 12 (.alt 14 .done .nil)) .nil) .nil)) (.alt 13 (.alt 5 (.alt 11 (.first 12 (.alt 14 .done .nil)) .nil) .nil) .nil)) (.alt 5 (.alt 4 (.alt 11 (.first 12 (.alt 13 (.alt 14 .done .nil) .nil)) (.alt 13 (.alt 11 (.first 12 (.alt 14 .done .nil)) .nil) .nil)) (.alt 11 (.alt 4 (.first 12 (.alt 13 (.alt 14 .done .nil) .nil)) (.alt 13 (.load 4 [12, 14] (.first 12 (.alt 14 .done .nil))) .nil)) (.alt 13 (.alt 4 (.alt 11 (.first 12 (.alt 14 .done .nil)) .nil) (.alt 11 (.load 4 [12, 14] (.first 12 (.alt 14 .done .nil))) .nil)) .nil))) (.alt 13 (.alt 4 (.alt 5 (.alt 11 (.first 12 (.alt 14 .done .nil)) .nil) .nil) (.alt 5 (.alt 4 (.alt 11 (.first 12 (.alt 14 .done .nil)) .nil) (.alt 11 (.load 4 [12, 14] (.first 12 (.alt 14 .done .nil))) .nil)) .nil)) .nil))) (.alt 13 (.alt 4 (.alt 5 (.load 10 [11, 12, 14] (.alt 11 (.first 12 (.alt 14 .done .nil)) .nil)) (.alt 10 (.alt 5 (.alt 11 (.first 12 (.alt 14 .done .nil)) .nil) .nil) .nil)) (.alt 5 (.load 10 [11, 12, 14] (.alt 4 (.alt 11 (.first 12 (.alt 14 .done .nil)) .nil) (.alt 11 (.load 4 [12, 14] (.first 12 (.alt 14 .done .nil))) .nil))) (.alt 10 (.alt 4 (.alt 5 (.alt 11 (.first 12 (.alt 14 .done .nil)) .nil) .nil) (.alt 5 (.alt 4 (.alt 11 (.first 12 (.alt 14 .done .nil)) .nil) (.alt 11 (.load 4 [12, 14] (.first 12 (.alt 14 .done .nil))) .nil)) .nil)) .nil))) .nil)))))))))))), (16, .first 0 (.first 2 (.first 3 (.first 4 (.first 5 (.load 1 [7, 8] (.load 6 [7, 8] (.first 7 (.alt 8 .done .nil)))))))))], [0, 1, 2, 3, 4, 8, 9, 10, 11, 12, 13, 14, 15, 16, 17, 18, 19, 20, 21, 22, 23, 33, 43, 65, 98, 121, 129, 144], 178⟩ ?_; ((conv => whnf); repeat ((first | refine Wo ?_ | refine Lt (by decide) ?_ | refine Lf (by decide) ?_ | refine Cl (by decide) ?_ | refine Cr (by decide) ?_ | refine ⟨_, rfl, ?_⟩ | refine Mi rfl ?_); (conv => whnf)))
  ((conv => whnf); (refine Hc.flat f0 ?_ rfl ?_; (focus ((repeat ((conv => arg 1; whnf); first | exact Tels.nil | apply Tels.cons | apply Tel.aggs | apply Tel.tups | exact Tel.refl _ | exact Tel.nil1 _ | exact Tel.cap _ _ _ _)); done))); ((conv => whnf); repeat ((first | refine Wo ?_ | refine Lt (by decide) ?_ | refine Lf (by decide) ?_ | refine Cl (by decide) ?_ | refine Cr (by decide) ?_ | refine ⟨_, rfl, ?_⟩ | refine Mi rfl ?_); (conv => whnf))))
  ((conv => whnf); (refine Hc.flat f1 ?_ rfl ?_; (focus ((repeat ((conv => arg 1; whnf); first | exact Tels.nil | apply Tels.cons | apply Tel.aggs | apply Tel.tups | exact Tel.refl _ | exact Tel.nil1 _ | exact Tel.cap _ _ _ _)); done))); ((conv => whnf); repeat ((first | refine Wo ?_ | refine Lt (by decide) ?_ | refine Lf (by decide) ?_ | refine Cl (by decide) ?_ | refine Cr (by decide) ?_ | refine ⟨_, rfl, ?_⟩ | refine Mi rfl ?_); (conv => whnf))))
  ((conv => whnf); ((repeat ((conv => arg 1; whnf); first | exact Tels.nil | apply Tels.cons | apply Tel.aggs | apply Tel.tups | exact Tel.refl _ | exact Tel.nil1 _ | exact Tel.cap _ _ _ _)); done))
theorem prefix_no2 (ho : 100 < o.length) (f1 : Runs Tryz.prog 27 [cD ops fold, rV ins] (bD true)) : Runs Tryz.prog 8 [cD ops fold, rV ins, rS o none, kD k] (bD true) := by
  have f0 := fshown_runs
  have t1 : decide (((o.length : Nat) : Int) > 100) = true := by rw [decide_eq_true_iff]; omega
  refine Runs.wp Go.Proofs.YtjldjhlccedkbaaGreatDoor.Am.hT Go.Proofs.YtjldjhlccedkbaaGreatDoor.Am.hm Tryz.func8 rfl (by decide) ⟨[(12, .first 0 (.first 1 (.first 2 (.first 3 (.first 6 (.first 7 (.first 8 (.first 9 (.alt 4 (.alt 5 (.alt 10 (.alt 11 (.first 12 (.alt 13 (.alt 14 .done .nil) .nil)) (.alt 13 (.alt 11 (.first 12 (.alt 14 .done .nil)) .nil) .nil)) (.alt 13 (.load 10 [11, 12, 14] (.alt 11 (.first 12 (.alt 14 .done .nil)) .nil)) .nil)) (.alt 10 (.alt 5 (.alt 11 (.first 12 (.alt 13 (.alt 14 .done .nil) .nil)) (.alt 13 (.alt 11 (.first 12 (.alt 14 .done .nil)) .nil) .nil)) (.alt 13 (.alt 5 (.alt 11 (.first 12 (.alt 14 .done .nil)) .nil) .nil) .nil)) (.alt 13 (.alt 5 (.load 10 [11, 12, 14] (.alt 11 (.first 12 (.alt 14 .done .nil)) .nil)) (.alt 10 (.alt 5 (.alt 11 (.first 12 (.alt 14 .done .nil)) .nil) .nil) .nil)) .nil))) (.alt 5 (.alt 4 (.alt 10 (.alt 11 (.first 12 (.alt 13 (.alt 14 .done .nil) .nil)) (.alt 13 (.alt 11 (.first 12 (.alt 14 .done .nil)) .nil) .nil)) (.alt 13 (.load 10 [11, 12, 14] (.alt 11 (.first 12 (.alt 14 .done .nil)) .nil)) .nil)) (.alt 10 (.alt 4 (.alt 11 (.first 12 (.alt 13 (.alt 14 .done .nil) .nil)) (.alt 13 (.alt 11 (.first 12 (.alt 14 .done .nil)) .nil) .nil)) (.alt 11 (.alt 4 (.first 12 (.alt 13 (.alt 14 .done .nil) .nil)) (.alt 13 (.load 4 [12, 14] (.first 12 (.alt 14 .done .nil))) .nil)) (.alt 13 (.alt 4 (.alt 11 (.first 12 (.alt 14 .done .nil)) .nil) (.alt 11 (.load 4 [12, 14] (.first 12 (.alt 14 .done .nil))) .nil)) .nil))) (.alt 13 (.load 10 [11, 12, 14] (.alt 4 (.alt 11 (.first 12 (.alt 14 .done .nil)) .nil) (.alt 11 (.load 4 [12, 14] (.first 12 (.alt 14 .done .nil))) .nil))) .nil))) (.alt 10 (.alt 4 (.alt 5 (.alt 11 (.first 12 (.alt 13 (.alt 14 .done .nil) .nil)) (.alt 13 (.alt 11 (.first 12 (.alt 14 .done .nil)) .nil) .nil)) (.alt 13 (.alt 5 (.alt 11 (.first 12 (.alt 14 .done .nil)) .nil) .nil) .nil)) (.alt 5 (.alt 4 (.alt 11 (.first 12 (.alt 13 (.alt 14 .done .nil) .nil)) (.alt 13 (.alt 11 (.first 12 (.alt 14 .done .nil)) .nil) .nil)) (.alt 11 (.alt 4 (.first 12 (.alt 13 (.alt 14 .done .nil) .nil)) (.alt 13 (.load 4 [12, 14] (.first 12 (.alt 14 .done .nil))) .nil)) (.alt 13 (.alt 4 (.alt 11 (.first 12 (.alt 14 .done .nil)) .nil) (.alt 11 (.load 4 [12, 14] (.first 12 (.alt 14 .done .nil))) .nil)) .nil))) (.alt 13 (.alt 4 (.alt 5 (.alt 11 (.first 12 (.alt 14 .done .nil)) .nil) .nil) (.alt 5 (.alt 4 (.alt 11 (.first 12 (.alt 14 .done .nil)) .nil) (.alt 11 (.load 4 [12, 14] (.first 12 (.alt 14 .done .nil))) .nil)) .nil)) .nil))) (.alt 13 (.alt 4 (.alt 5 (.load 10 [11, 12, 14] (.alt 11 (.first 12 (.alt 14 .done .nil)) .nil)) (.alt 10 (.alt 5 (.alt 11 (.first 12 (.alt 14 .done .nil)) .nil) .nil) .nil)) (.alt 5 (.load 10 [11, 12, 14] (.alt 4 (.alt 11 (.first 12 (.alt 14 .done .nil)) .nil) (.alt 11 (.load 4 [12, 14] (.first 12 (.alt 14 .done .nil))) .nil))) (.alt 10 (.alt 4 (.alt 5 (.alt 11 (.first 12 (.alt 14 .done .nil)) .nil) .nil) (.alt 5 (.alt 4 (.alt 11 (.first 12 (.alt 14 .done .nil)) .nil) (.alt 11 (.load 4 [12, 14] (.first 12 (.alt 14 .done .nil))) .nil)) .nil)) .nil))) .nil)))))))))))), (16, .first 0 (.first 2 (.first 3 (.first 4 (.first 5 (.load 1 [7, 8] (.load 6 [7, 8] (.first 7 (.alt 8 .done .nil)))))))))], [0, 1, 2, 3, 4, 8, 9, 10, 11, 12, 13, 14, 15, 16, 17, 18, 19, 20, 21, 22, 23, 33, 43, 65, 98, 121, 129, 144], 178⟩ ?_; ((conv => whnf); repeat ((first | refine Wo ?_ | refine Lt (by decide) ?_ | refine Lf (by decide) ?_ | refine Cl (by decide) ?_ | refine Cr (by decide) ?_ | refine ⟨_, rfl, ?_⟩ | refine Mi rfl ?_); (conv => whnf)))
  ((conv => whnf); (refine Hc.flat f0 ?_ rfl ?_; (focus ((repeat ((conv => arg 1; whnf); first | exact Tels.nil | apply Tels.cons | apply Tel.aggs | apply Tel.tups | exact Tel.refl _ | exact Tel.nil1 _ | exact Tel.cap _ _ _ _)); done))); ((conv => whnf); repeat ((first | refine Wo ?_ | refine Lt (by decide) ?_ | refine Lf (by decide) ?_ | refine Cl (by decide) ?_ | refine Cr (by decide) ?_ | refine ⟨_, rfl, ?_⟩ | refine Mi rfl ?_); (conv => whnf))))
  ((conv => whnf); (refine Hc.flat f1 ?_ rfl ?_; (focus ((repeat ((conv => arg 1; whnf); first | exact Tels.nil | apply Tels.cons | apply Tel.aggs | apply Tel.tups | exact Tel.refl _ | exact Tel.nil1 _ | exact Tel.cap _ _ _ _)); done))); ((conv => whnf); repeat ((first | refine Wo ?_ | refine Lt (by decide) ?_ | refine Lf (by decide) ?_ | refine Cl (by decide) ?_ | refine Cr (by decide) ?_ | refine ⟨_, rfl, ?_⟩ | refine Mi rfl ?_); (conv => whnf))))
  refine litE t1 ?_
  ((conv => whnf); repeat ((first | refine Wo ?_ | refine Lt (by decide) ?_ | refine Lf (by decide) ?_ | refine Cl (by decide) ?_ | refine Cr (by decide) ?_ | refine ⟨_, rfl, ?_⟩ | refine Mi rfl ?_); (conv => whnf)))
  ((conv => whnf); ((repeat ((conv => arg 1; whnf); first | exact Tels.nil | apply Tels.cons | apply Tel.aggs | apply Tel.tups | exact Tel.refl _ | exact Tel.nil1 _ | exact Tel.cap _ _ _ _)); done))
theorem prefix_err {e : Int} (ho : o.length ≤ 100) (he : e ≠ 0) (f1 : Runs Tryz.prog 27 [cD ops fold, rV ins] (bD true)) (m : Runs Tryz.prog 29 [cD ops fold] (cD ops fold)) (st : Runs Tryz.prog 28 [cD ops fold, rV ins] (.tup [frD frZ, iD e])) :
    Runs Tryz.prog 8 [cD ops fold, rV ins, rS o none, kD k] (bD true) := by
  have f0 := fshown_runs
  have t1 : decide (((o.length : Nat) : Int) > 100) = false := by rw [decide_eq_false_iff_not]; omega
  have t2 : (!(e == 0)) = true := by simpa using he
  refine Runs.wp Go.Proofs.YtjldjhlccedkbaaGreatDoor.Am.hT Go.Proofs.YtjldjhlccedkbaaGreatDoor.Am.hm Tryz.func8 rfl (by decide) ⟨[(12, .first 0 (.first 1 (.first 2 (.first 3 (.first 6 (.first 7 (.first 8 (.first 9 (.alt 4 (.alt 5 (.alt 10 (.alt 11 (.first 12 (.alt 13 (.alt 14 .done .nil) .nil)) (.alt 13 (.alt 11 (.first 12 (.alt 14 .done .nil)) .nil) .nil)) (.alt 13 (.load 10 [11, 12, 14] (.alt 11 (.first 12 (.alt 14 .done .nil)) .nil)) .nil)) (.alt 10 (.alt 5 (.alt 11 (.first 12 (.alt 13 (.alt 14 .done .nil) .nil)) (.alt 13 (.alt 11 (.first 12 (.alt 14 .done .nil)) .nil) .nil)) (.alt 13 (.alt 5 (.alt 11 (.first 12 (.alt 14 .done .nil)) .nil) .nil) .nil)) (.alt 13 (.alt 5 (.load 10 [11, 12, 14] (.alt 11 (.first 12 (.alt 14 .done .nil)) .nil)) (.alt 10 (.alt 5 (.alt 11 (.first 12 (.alt 14 .done .nil)) .nil) .nil) .nil)) .nil))) (.alt 5 (.alt 4 (.alt 10 (.alt 11 (.first 12 (.alt 13 (.alt 14 .done .nil) .nil)) (.alt 13 (.alt 11 (.first 12 (.alt 14 .done .nil)) .nil) .nil)) (.alt 13 (.load 10 [11, 12, 14] (.alt 11 (.first 12 (.alt 14 .done .nil)) .nil)) .nil)) (.alt 10 (.alt 4 (.alt 11 (.first 12 (.alt 13 (.alt 14 .done .nil) .nil)) (.alt 13 (.alt 11 (.first 12 (.alt 14 .done .nil)) .nil) .nil)) (.alt 11 (.alt 4 (.first 12 (.alt 13 (.alt 14 .done .nil) .nil)) (.alt 13 (.load 4 [12, 14] (.first 12 (.alt 14 .done .nil))) .nil)) (.alt 13 (.alt 4 (.alt 11 (.first 12 (.alt 14 .done .nil)) .nil) (.alt 11 (.load 4 [12, 14] (.first 12 (.alt 14 .done .nil))) .nil)) .nil))) (.alt 13 (.load 10 [11, 12, 14] (.alt 4 (.alt 11 (.first 12 (.alt 14 .done .nil)) .nil) (.alt 11 (.load 4 [12, 14] (.first 12 (.alt 14 .done .nil))) .nil))) .nil))) (.alt 10 (.alt 4 (.alt 5 (.alt 11 (.first 12 (.alt 13 (.alt 14 .done .nil) .nil)) (.alt 13 (.alt 11 (.first 12 (.alt 14 .done .nil)) .nil) .nil)) (.alt 13 (.alt 5 (.alt 11 (.first 12 (.alt 14 .done .nil)) .nil) .nil) .nil)) (.alt 5 (.alt 4 (.alt 11 (.first 12 (.alt 13 (.alt 14 .done .nil) .nil)) (.alt 13 (.alt 11 (.first 12 (.alt 14 .done .nil)) .nil) .nil)) (.alt 11 (.alt 4 (.first 12 (.alt 13 (.alt 14 .done .nil) .nil)) (.alt 13 (.load 4 [12, 14] (.first 12 (.alt 14 .done .nil))) .nil)) (.alt 13 (.alt 4 (.alt 11 (.first 12 (.alt 14 .done .nil)) .nil) (.alt 11 (.load 4 [12, 14] (.first 12 (.alt 14 .done .nil))) .nil)) .nil))) (.alt 13 (.alt 4 (.alt 5 (.alt 11 (.first 12 (.alt 14 .done .nil)) .nil) .nil) (.alt 5 (.alt 4 (.alt 11 (.first 12 (.alt 14 .done .nil)) .nil) (.alt 11 (.load 4 [12, 14] (.first 12 (.alt 14 .done .nil))) .nil)) .nil)) .nil))) (.alt 13 (.alt 4 (.alt 5 (.load 10 [11, 12, 14] (.alt 11 (.first 12 (.alt 14 .done .nil)) .nil)) (.alt 10 (.alt 5 (.alt 11 (.first 12 (.alt 14 .done .nil)) .nil) .nil) .nil)) (.alt 5 (.load 10 [11, 12, 14] (.alt 4 (.alt 11 (.first 12 (.alt 14 .done .nil)) .nil) (.alt 11 (.load 4 [12, 14] (.first 12 (.alt 14 .done .nil))) .nil))) (.alt 10 (.alt 4 (.alt 5 (.alt 11 (.first 12 (.alt 14 .done .nil)) .nil) .nil) (.alt 5 (.alt 4 (.alt 11 (.first 12 (.alt 14 .done .nil)) .nil) (.alt 11 (.load 4 [12, 14] (.first 12 (.alt 14 .done .nil))) .nil)) .nil)) .nil))) .nil)))))))))))), (16, .first 0 (.first 2 (.first 3 (.first 4 (.first 5 (.load 1 [7, 8] (.load 6 [7, 8] (.first 7 (.alt 8 .done .nil)))))))))], [0, 1, 2, 3, 4, 8, 9, 10, 11, 12, 13, 14, 15, 16, 17, 18, 19, 20, 21, 22, 23, 33, 43, 65, 98, 121, 129, 144], 178⟩ ?_; ((conv => whnf); repeat ((first | refine Wo ?_ | refine Lt (by decide) ?_ | refine Lf (by decide) ?_ | refine Cl (by decide) ?_ | refine Cr (by decide) ?_ | refine ⟨_, rfl, ?_⟩ | refine Mi rfl ?_); (conv => whnf)))
  ((conv => whnf); (refine Hc.flat f0 ?_ rfl ?_; (focus ((repeat ((conv => arg 1; whnf); first | exact Tels.nil | apply Tels.cons | apply Tel.aggs | apply Tel.tups | exact Tel.refl _ | exact Tel.nil1 _ | exact Tel.cap _ _ _ _)); done))); ((conv => whnf); repeat ((first | refine Wo ?_ | refine Lt (by decide) ?_ | refine Lf (by decide) ?_ | refine Cl (by decide) ?_ | refine Cr (by decide) ?_ | refine ⟨_, rfl, ?_⟩ | refine Mi rfl ?_); (conv => whnf))))
  ((conv => whnf); (refine Hc.flat f1 ?_ rfl ?_; (focus ((repeat ((conv => arg 1; whnf); first | exact Tels.nil | apply Tels.cons | apply Tel.aggs | apply Tel.tups | exact Tel.refl _ | exact Tel.nil1 _ | exact Tel.cap _ _ _ _)); done))); ((conv => whnf); repeat ((first | refine Wo ?_ | refine Lt (by decide) ?_ | refine Lf (by decide) ?_ | refine Cl (by decide) ?_ | refine Cr (by decide) ?_ | refine ⟨_, rfl, ?_⟩ | refine Mi rfl ?_); (conv => whnf))))
  refine litE t1 ?_
  ((conv => whnf); repeat ((first | refine Wo ?_ | refine Lt (by decide) ?_ | refine Lf (by decide) ?_ | refine Cl (by decide) ?_ | refine Cr (by decide) ?_ | refine ⟨_, rfl, ?_⟩ | refine Mi rfl ?_); (conv => whnf)))
  ((conv => whnf); (refine Hc.runs m ?_ ?_; (focus ((repeat ((conv => arg 1; whnf); first | exact Tels.nil | apply Tels.cons | apply Tel.aggs | apply Tel.tups | exact Tel.refl _ | exact Tel.nil1 _ | exact Tel.cap _ _ _ _)); done))); ((conv => whnf); repeat ((first | refine Wo ?_ | refine Lt (by decide) ?_ | refine Lf (by decide) ?_ | refine Cl (by decide) ?_ | refine Cr (by decide) ?_ | refine ⟨_, rfl, ?_⟩ | refine Mi rfl ?_); (conv => whnf))))
  ((conv => whnf); (refine Hc.runs st ?_ ?_; (focus ((repeat ((conv => arg 1; whnf); first | exact Tels.nil | apply Tels.cons | apply Tel.aggs | apply Tel.tups | exact Tel.refl _ | exact Tel.nil1 _ | exact Tel.cap _ _ _ _)); done))); ((conv => whnf); repeat ((first | refine Wo ?_ | refine Lt (by decide) ?_ | refine Lf (by decide) ?_ | refine Cl (by decide) ?_ | refine Cr (by decide) ?_ | refine ⟨_, rfl, ?_⟩ | refine Mi rfl ?_); (conv => whnf))))
  refine litE t2 ?_
  ((conv => whnf); repeat ((first | refine Wo ?_ | refine Lt (by decide) ?_ | refine Lf (by decide) ?_ | refine Cl (by decide) ?_ | refine Cr (by decide) ?_ | refine ⟨_, rfl, ?_⟩ | refine Mi rfl ?_); (conv => whnf)))
  ((conv => whnf); ((repeat ((conv => arg 1; whnf); first | exact Tels.nil | apply Tels.cons | apply Tel.aggs | apply Tel.tups | exact Tel.refl _ | exact Tel.nil1 _ | exact Tel.cap _ _ _ _)); done))
abbrev frP (g : FrL) : Option Ob := some (.st 52 [.d (rO g.ops), .d (sD g.fold), .d (rV g.ins), .d (iD g.n), .d (iD g.k), .d (rS g.out none), .d (sD g.acc)])
noncomputable def fpQ (ops : List OpL) (fold : ByteArray) (ins : List ValL) (o : List ByteArray) (f : FrL) (n i : Nat) : St :=
  { t := pin [(1, .d (rV ins)), (2, .d (rS o none)), (4, .pt 0 0), (9, .d (bD true)), (10, .pt 1 0), (12, .d (iD n)), (13, .bs 2), (14, .d (iD i))], N := 178,
    h := hpin [some (.st 45 [.d (rO ops), .d (sD fold)]), frP f, some (.ar 25 2 i (((ins.take i).map (chV o n)).flatMap valC))], n := 3, lo := 0 }
noncomputable def fjQ (ops : List OpL) (fold : ByteArray) (ins : List ValL) (o : List ByteArray) (f : FrL) (n i : Nat) (s : List Int) (e : List ByteArray) (j : Nat) : St :=
  { t := pin [(1, .d (rV ins)), (2, .d (rS o none)), (4, .pt 0 0), (9, .d (bD true)), (10, .pt 1 0), (12, .d (iD n)), (13, .bs 2), (14, .d (iD i)), (15, .pt 4 0), (16, .d (iD j))], N := 178,
    h := hpin [some (.st 45 [.d (rO ops), .d (sD fold)]), frP f, some (.ar 25 2 i (((ins.take i).map (chV o n)).flatMap valC)), some (.ar 9 1 e.length ((ovr e o n j).map sD)), some (.st 25 [.d (rI s none), .bs 3])], n := 5, lo := 0 }
noncomputable def fkQ (ops : List OpL) (fold : ByteArray) (o : List ByteArray) (x : FrL) (n i : Nat) : St :=
  { t := pin [(9, .d (bD true)), (10, .pt 1 0), (12, .d (iD n)), (17, .pt 2 0), (19, .d (iD i))], N := 178,
    h := hpin [some (.st 45 [.d (rO ops), .d (sD fold)]), frP x, frP (chF o n x)], n := 3, lo := 0 }
theorem putS {m : List ByteArray} {o : Nat} {v : ByteArray} (h : o < m.length) : putCells (m.map sD) o [sD v] = (m.set o v).map sD := by
  rw [List.map_set]
  unfold putCells
  rw [List.set_eq_take_append_cons_drop, if_pos (by simpa using h)]
  simp
theorem ch_cells {ins : List ValL} {o : List ByteArray} {n i j : Nat} {s : List Int} {e : List ByteArray} (hx : ins[i]? = some (s, e)) (h : s.length ≠ 1 ∧ j = n ∨ s.length = 1 ∧ (e.length ≤ j ∨ o.length ≤ j)) :
    ((ins.take i).map (chV o n)).flatMap valC ++ [.sl 1 (s.map iD) s.length none, .sl 1 ((ovr e o n j).map sD) e.length none] = ((ins.take (i + 1)).map (chV o n)).flatMap valC := by
  have hc : valC (chV o n (s, e)) = [.sl 1 (s.map iD) s.length none, .sl 1 ((ovr e o n j).map sD) e.length none] := by
    unfold chV
    rcases h with ⟨h, rfl⟩ | ⟨h, h2⟩
    · rw [if_neg h, ovr_self]
      rfl
    · rw [if_pos h]
      dsimp only
      rw [← ovr_end h2]
      unfold valC rI rS
      dsimp only
      rw [ovr_len]
  rw [List.take_add_one, hx, List.map_append, List.flatMap_append]
  simp [hc]
theorem prefix_go {f : FrL} {n : Nat} (ho : o.length ≤ 100) (hk : Int.tmod (IntKind.i64.wrap k) (f.n + 1) = (n : Int)) (hn1 : 1 ≤ f.n) (hn : f.n ≤ 4096) (hnf : (n : Int) ≤ f.n) (hk0 : f.k ≤ 0) (hch : Runs Tryz.prog 28 [cD ops fold, rV (ins.map (chV o n))] (.tup [frD frZ, iD 1]) ∨ FrOk f ∧ FrOk (chF o n f) ∧ f.ins = ins ∧ Runs Tryz.prog 28 [cD ops fold, rV (ins.map (chV o n))] (.tup [frD (chF o n f), iD 0])) (hi : ins.length ≤ 8) (he : ∀ v ∈ ins, v.2.length ≤ 100) (f1 : Runs Tryz.prog 27 [cD ops fold, rV ins] (bD true)) (m : Runs Tryz.prog 29 [cD ops fold] (cD ops fold)) (st : Runs Tryz.prog 28 [cD ops fold, rV ins] (.tup [frD f, iD 0])) :
    Runs Tryz.prog 8 [cD ops fold, rV ins, rS o none, kD k] (bD true) := by
  have f0 := fshown_runs
  have t1 : decide (((o.length : Nat) : Int) > 100) = false := by rw [decide_eq_false_iff_not]; omega
  refine Runs.wp Go.Proofs.YtjldjhlccedkbaaGreatDoor.Am.hT Go.Proofs.YtjldjhlccedkbaaGreatDoor.Am.hm Tryz.func8 rfl (by decide) ⟨[(12, .first 0 (.first 1 (.first 2 (.first 3 (.first 6 (.first 7 (.first 8 (.first 9 (.alt 4 (.alt 5 (.alt 10 (.alt 11 (.first 12 (.alt 13 (.alt 14 .done .nil) .nil)) (.alt 13 (.alt 11 (.first 12 (.alt 14 .done .nil)) .nil) .nil)) (.alt 13 (.load 10 [11, 12, 14] (.alt 11 (.first 12 (.alt 14 .done .nil)) .nil)) .nil)) (.alt 10 (.alt 5 (.alt 11 (.first 12 (.alt 13 (.alt 14 .done .nil) .nil)) (.alt 13 (.alt 11 (.first 12 (.alt 14 .done .nil)) .nil) .nil)) (.alt 13 (.alt 5 (.alt 11 (.first 12 (.alt 14 .done .nil)) .nil) .nil) .nil)) (.alt 13 (.alt 5 (.load 10 [11, 12, 14] (.alt 11 (.first 12 (.alt 14 .done .nil)) .nil)) (.alt 10 (.alt 5 (.alt 11 (.first 12 (.alt 14 .done .nil)) .nil) .nil) .nil)) .nil))) (.alt 5 (.alt 4 (.alt 10 (.alt 11 (.first 12 (.alt 13 (.alt 14 .done .nil) .nil)) (.alt 13 (.alt 11 (.first 12 (.alt 14 .done .nil)) .nil) .nil)) (.alt 13 (.load 10 [11, 12, 14] (.alt 11 (.first 12 (.alt 14 .done .nil)) .nil)) .nil)) (.alt 10 (.alt 4 (.alt 11 (.first 12 (.alt 13 (.alt 14 .done .nil) .nil)) (.alt 13 (.alt 11 (.first 12 (.alt 14 .done .nil)) .nil) .nil)) (.alt 11 (.alt 4 (.first 12 (.alt 13 (.alt 14 .done .nil) .nil)) (.alt 13 (.load 4 [12, 14] (.first 12 (.alt 14 .done .nil))) .nil)) (.alt 13 (.alt 4 (.alt 11 (.first 12 (.alt 14 .done .nil)) .nil) (.alt 11 (.load 4 [12, 14] (.first 12 (.alt 14 .done .nil))) .nil)) .nil))) (.alt 13 (.load 10 [11, 12, 14] (.alt 4 (.alt 11 (.first 12 (.alt 14 .done .nil)) .nil) (.alt 11 (.load 4 [12, 14] (.first 12 (.alt 14 .done .nil))) .nil))) .nil))) (.alt 10 (.alt 4 (.alt 5 (.alt 11 (.first 12 (.alt 13 (.alt 14 .done .nil) .nil)) (.alt 13 (.alt 11 (.first 12 (.alt 14 .done .nil)) .nil) .nil)) (.alt 13 (.alt 5 (.alt 11 (.first 12 (.alt 14 .done .nil)) .nil) .nil) .nil)) (.alt 5 (.alt 4 (.alt 11 (.first 12 (.alt 13 (.alt 14 .done .nil) .nil)) (.alt 13 (.alt 11 (.first 12 (.alt 14 .done .nil)) .nil) .nil)) (.alt 11 (.alt 4 (.first 12 (.alt 13 (.alt 14 .done .nil) .nil)) (.alt 13 (.load 4 [12, 14] (.first 12 (.alt 14 .done .nil))) .nil)) (.alt 13 (.alt 4 (.alt 11 (.first 12 (.alt 14 .done .nil)) .nil) (.alt 11 (.load 4 [12, 14] (.first 12 (.alt 14 .done .nil))) .nil)) .nil))) (.alt 13 (.alt 4 (.alt 5 (.alt 11 (.first 12 (.alt 14 .done .nil)) .nil) .nil) (.alt 5 (.alt 4 (.alt 11 (.first 12 (.alt 14 .done .nil)) .nil) (.alt 11 (.load 4 [12, 14] (.first 12 (.alt 14 .done .nil))) .nil)) .nil)) .nil))) (.alt 13 (.alt 4 (.alt 5 (.load 10 [11, 12, 14] (.alt 11 (.first 12 (.alt 14 .done .nil)) .nil)) (.alt 10 (.alt 5 (.alt 11 (.first 12 (.alt 14 .done .nil)) .nil) .nil) .nil)) (.alt 5 (.load 10 [11, 12, 14] (.alt 4 (.alt 11 (.first 12 (.alt 14 .done .nil)) .nil) (.alt 11 (.load 4 [12, 14] (.first 12 (.alt 14 .done .nil))) .nil))) (.alt 10 (.alt 4 (.alt 5 (.alt 11 (.first 12 (.alt 14 .done .nil)) .nil) .nil) (.alt 5 (.alt 4 (.alt 11 (.first 12 (.alt 14 .done .nil)) .nil) (.alt 11 (.load 4 [12, 14] (.first 12 (.alt 14 .done .nil))) .nil)) .nil)) .nil))) .nil)))))))))))), (16, .first 0 (.first 2 (.first 3 (.first 4 (.first 5 (.load 1 [7, 8] (.load 6 [7, 8] (.first 7 (.alt 8 .done .nil)))))))))], [0, 1, 2, 3, 4, 8, 9, 10, 11, 12, 13, 14, 15, 16, 17, 18, 19, 20, 21, 22, 23, 33, 43, 65, 98, 121, 129, 144], 178⟩ ?_; ((conv => whnf); repeat ((first | refine Wo ?_ | refine Lt (by decide) ?_ | refine Lf (by decide) ?_ | refine Cl (by decide) ?_ | refine Cr (by decide) ?_ | refine ⟨_, rfl, ?_⟩ | refine Mi rfl ?_); (conv => whnf)))
  ((conv => whnf); (refine Hc.flat f0 ?_ rfl ?_; (focus ((repeat ((conv => arg 1; whnf); first | exact Tels.nil | apply Tels.cons | apply Tel.aggs | apply Tel.tups | exact Tel.refl _ | exact Tel.nil1 _ | exact Tel.cap _ _ _ _)); done))); ((conv => whnf); repeat ((first | refine Wo ?_ | refine Lt (by decide) ?_ | refine Lf (by decide) ?_ | refine Cl (by decide) ?_ | refine Cr (by decide) ?_ | refine ⟨_, rfl, ?_⟩ | refine Mi rfl ?_); (conv => whnf))))
  ((conv => whnf); (refine Hc.flat f1 ?_ rfl ?_; (focus ((repeat ((conv => arg 1; whnf); first | exact Tels.nil | apply Tels.cons | apply Tel.aggs | apply Tel.tups | exact Tel.refl _ | exact Tel.nil1 _ | exact Tel.cap _ _ _ _)); done))); ((conv => whnf); repeat ((first | refine Wo ?_ | refine Lt (by decide) ?_ | refine Lf (by decide) ?_ | refine Cl (by decide) ?_ | refine Cr (by decide) ?_ | refine ⟨_, rfl, ?_⟩ | refine Mi rfl ?_); (conv => whnf))))
  refine litE t1 ?_
  ((conv => whnf); repeat ((first | refine Wo ?_ | refine Lt (by decide) ?_ | refine Lf (by decide) ?_ | refine Cl (by decide) ?_ | refine Cr (by decide) ?_ | refine ⟨_, rfl, ?_⟩ | refine Mi rfl ?_); (conv => whnf)))
  ((conv => whnf); (refine Hc.runs m ?_ ?_; (focus ((repeat ((conv => arg 1; whnf); first | exact Tels.nil | apply Tels.cons | apply Tel.aggs | apply Tel.tups | exact Tel.refl _ | exact Tel.nil1 _ | exact Tel.cap _ _ _ _)); done))); ((conv => whnf); repeat ((first | refine Wo ?_ | refine Lt (by decide) ?_ | refine Lf (by decide) ?_ | refine Cl (by decide) ?_ | refine Cr (by decide) ?_ | refine ⟨_, rfl, ?_⟩ | refine Mi rfl ?_); (conv => whnf))))
  ((conv => whnf); (refine Hc.runs st ?_ ?_; (focus ((repeat ((conv => arg 1; whnf); first | exact Tels.nil | apply Tels.cons | apply Tel.aggs | apply Tel.tups | exact Tel.refl _ | exact Tel.nil1 _ | exact Tel.cap _ _ _ _)); done))); ((conv => whnf); repeat ((first | refine Wo ?_ | refine Lt (by decide) ?_ | refine Lf (by decide) ?_ | refine Cl (by decide) ?_ | refine Cr (by decide) ?_ | refine ⟨_, rfl, ?_⟩ | refine Mi rfl ?_); (conv => whnf))))
  have ew : IntKind.i64.wrap (f.n + 1) = f.n + 1 := i64w (by omega) (by omega)
  refine ⟨rfl, by rw [ew]; omega, ?_⟩
  ((conv => whnf); repeat ((first | refine Wo ?_ | refine Lt (by decide) ?_ | refine Lf (by decide) ?_ | refine Cl (by decide) ?_ | refine Cr (by decide) ?_ | refine ⟨_, rfl, ?_⟩ | refine Mi rfl ?_); (conv => whnf)))
  refine loop_ind (fun k (i : Nat) => i + k = ins.length + 1 ∧ i ≤ ins.length) (fun i => fpQ ops fold ins o f n i) (fun i h => by omega) ?_ (ins.length + 1) 0 ⟨by omega, by omega⟩ _ ?_
  · rintro r i R ih ⟨hr, hi2⟩
    unfold fpQ frP
    by_cases hlt : i < ins.length
    · have t2 : decide ((i : Int) < (ins.length : Int)) = true := by rw [decide_eq_true_iff]; omega
      have hx : ins[i]? = some ins[i] := List.getElem?_eq_getElem hlt
      have g0 : (ins.flatMap valC)[(i : Int).toNat * 2 + 0]? = some (rI ins[i].1 none) := (fm_get valC_len (i := (i : Int).toNat) (j := 0) (by rw [Int.toNat_natCast]; exact hx) (by decide)).trans rfl
      have g1 : (ins.flatMap valC)[(i : Int).toNat * 2 + 1]? = some (rS ins[i].2 none) := (fm_get valC_len (i := (i : Int).toNat) (j := 1) (by rw [Int.toNat_natCast]; exact hx) (by decide)).trans rfl
      have hv := he _ (List.getElem_mem hlt)
      ((conv => whnf); repeat ((first | refine Wo ?_ | refine Lt (by decide) ?_ | refine Lf (by decide) ?_ | refine Cl (by decide) ?_ | refine Cr (by decide) ?_ | refine ⟨_, rfl, ?_⟩ | refine Mi rfl ?_); (conv => whnf)))
      refine litE t2 ?_
      ((conv => whnf); repeat ((first | refine Wo ?_ | refine Lt (by decide) ?_ | refine Lf (by decide) ?_ | refine Cl (by decide) ?_ | refine Cr (by decide) ?_ | refine ⟨_, rfl, ?_⟩ | refine Mi rfl ?_); (conv => whnf)))
      (refine And.intro (by decide +kernel) ?_; apply Exists.intro; apply And.intro; focus ((repeat' ((conv => whnf); first | exact trivial | refine Wo ?_ | refine Lt (by decide) ?_ | refine Lf (by decide) ?_ | refine Cl (by decide) ?_ | refine Cr (by decide) ?_ | refine ⟨_, rfl, ?_⟩ | refine Mi rfl ?_ | (first | refine And.intro (show (0 : Int) ≤ (i : Int) by omega) ?_ | refine And.intro (show (i : Int) < (ins.length : Int) by omega) ?_ | refine ⟨_, g0, ?_⟩ | refine ⟨_, g1, ?_⟩ | refine And.intro (show 0 + ins[i].2.length ≤ maxLen by unfold maxLen; omega) ?_ | refine And.intro (show (0 + ins[i].2.length) * 16 ≤ 140737488355328 by omega) ?_) | (refine And.intro ?_ ?_))); all_goals (first | ((conv => whnf); exact Wk.frc (keep := [0, 1, 2, 3, 4, 8, 9, 10, 11, 12, 13, 14, 15, 16, 17, 18, 19, 20, 21, 22, 23, 33, 43, 65, 98, 121, 129, 144]) (N := 178) (by (conv => whnf); first | done | exact rfl)) | ((refine Wk.pin [0, 1, 2, 3, 5, 4] _ _ ?_ ?_ rfl rfl (by decide) rfl rfl <;> (repeat' first | exact trivial | rfl | (refine And.intro ?_ ?_))); done) | ((refine Wk.pin [0, 1, 2, 4, 5, 3] _ _ ?_ ?_ rfl rfl (by decide) rfl rfl <;> (repeat' first | exact trivial | rfl | (refine And.intro ?_ ?_))); done) | (first | decide | rfl | assumption | omega | (dsimp only; omega) | (unfold maxLen; omega) | ((try dsimp only [maxLen]); simp only [List.length_append, List.length_cons, List.length_nil, List.length_map, List.length_range, List.length_set, List.length_replicate]; omega) | ((try dsimp only [maxLen]); simp only [IntKind.wrap_i64, IntKind.wrap_u64, List.length_append, List.length_cons, List.length_nil, List.length_map, List.length_range, List.length_set, List.length_replicate]; omega) | ((try dsimp only [maxLen]); simp only [List.length_append, List.length_cons, List.length_nil, List.length_map, List.length_range, List.length_set, List.length_replicate] at *; omega)))))
      ((conv => whnf); repeat ((first | refine Wo ?_ | refine Lt (by decide) ?_ | refine Lf (by decide) ?_ | refine Cl (by decide) ?_ | refine Cr (by decide) ?_ | refine ⟨_, rfl, ?_⟩ | refine Mi rfl ?_); (conv => whnf)))
      generalize ins[i] = v at *
      obtain ⟨s, e⟩ := v
      dsimp only at hv
      refine loop_ind (fun r (j : Nat) => j + r = max n e.length + 1 ∧ n ≤ j ∧ (n < j → s.length = 1 ∧ j ≤ e.length)) (fun j => fjQ ops fold ins o f n i s e j) (fun j h => by omega) ?_ (max n e.length + 1 - n) n ⟨by omega, by omega, by omega⟩ _ ?_
      · rintro r2 j R2 ih2 ⟨hr2, hj, hj2⟩
        unfold fjQ frP
        have hL := ovr_len e o n j
        by_cases c1 : j < e.length
        · have t3 : decide ((j : Int) < ((e.length : Nat) : Int)) = true := by rw [decide_eq_true_iff]; omega
          by_cases c2 : s.length = 1
          · have t4 : ((s.length : Int) == 1) = true := by rw [c2]; rfl
            by_cases c3 : j < o.length
            · have t5 : decide ((j : Int) < ((o.length : Nat) : Int)) = true := by rw [decide_eq_true_iff]; omega
              have gj : (o.map sD)[(j : Int).toNat * 1]? = some (sD o[j]) := ixm (j := j) (List.getElem?_eq_getElem c3) (by simp)
              ((conv => whnf); repeat ((first | refine Wo ?_ | refine Lt (by decide) ?_ | refine Lf (by decide) ?_ | refine Cl (by decide) ?_ | refine Cr (by decide) ?_ | refine ⟨_, rfl, ?_⟩ | refine Mi rfl ?_); (conv => whnf)))
              refine litE t3 ?_
              ((conv => whnf); repeat ((first | refine Wo ?_ | refine Lt (by decide) ?_ | refine Lf (by decide) ?_ | refine Cl (by decide) ?_ | refine Cr (by decide) ?_ | refine ⟨_, rfl, ?_⟩ | refine Mi rfl ?_); (conv => whnf)))
              refine litE t4 ?_
              ((conv => whnf); repeat ((first | refine Wo ?_ | refine Lt (by decide) ?_ | refine Lf (by decide) ?_ | refine Cl (by decide) ?_ | refine Cr (by decide) ?_ | refine ⟨_, rfl, ?_⟩ | refine Mi rfl ?_); (conv => whnf)))
              refine litE t5 ?_
              ((conv => whnf); repeat ((first | refine Wo ?_ | refine Lt (by decide) ?_ | refine Lf (by decide) ?_ | refine Cl (by decide) ?_ | refine Cr (by decide) ?_ | refine ⟨_, rfl, ?_⟩ | refine Mi rfl ?_); (conv => whnf)))
              (refine And.intro (by decide +kernel) ?_; apply Exists.intro; apply And.intro; focus ((repeat' ((conv => whnf); first | exact trivial | refine Wo ?_ | refine Lt (by decide) ?_ | refine Lf (by decide) ?_ | refine Cl (by decide) ?_ | refine Cr (by decide) ?_ | refine ⟨_, rfl, ?_⟩ | refine Mi rfl ?_ | (first | refine And.intro (show (0 : Int) ≤ (j : Int) by omega) ?_ | refine And.intro (show (j : Int) < (o.length : Int) by omega) ?_ | refine And.intro (show (j : Int) < (e.length : Int) by omega) ?_ | refine ⟨_, gj, ?_⟩) | (refine And.intro ?_ ?_))); all_goals (first | ((conv => whnf); exact Wk.frc (keep := [0, 1, 2, 3, 4, 8, 9, 10, 11, 12, 13, 14, 15, 16, 17, 18, 19, 20, 21, 22, 23, 33, 43, 65, 98, 121, 129, 144]) (N := 178) (by (conv => whnf); first | done | exact rfl)) | (first | decide | rfl | assumption | omega | (dsimp only; omega) | (unfold maxLen; omega) | ((try dsimp only [maxLen]); simp only [List.length_append, List.length_cons, List.length_nil, List.length_map, List.length_range, List.length_set, List.length_replicate]; omega) | ((try dsimp only [maxLen]); simp only [IntKind.wrap_i64, IntKind.wrap_u64, List.length_append, List.length_cons, List.length_nil, List.length_map, List.length_range, List.length_set, List.length_replicate]; omega) | ((try dsimp only [maxLen]); simp only [List.length_append, List.length_cons, List.length_nil, List.length_map, List.length_range, List.length_set, List.length_replicate] at *; omega)))))
              ((conv => whnf); repeat ((first | refine Wo ?_ | refine Lt (by decide) ?_ | refine Lf (by decide) ?_ | refine Cl (by decide) ?_ | refine Cr (by decide) ?_ | refine ⟨_, rfl, ?_⟩ | refine Mi rfl ?_); (conv => whnf)))
              refine ih2 (j + 1) _ ⟨by omega, by omega, fun _ => ⟨c2, by omega⟩⟩ ?_
              unfold fjQ frP
              (refine Wk.pin [0, 1, 2, 3, 4] _ _ ?_ ?_ rfl rfl (by decide) rfl rfl <;> (repeat' first | exact trivial | rfl | (refine And.intro ?_ ?_)))
              · exact inE (i64n (n := j + 1) (by omega) (by omega))
              · exact arE ((putS (o := (j : Int).toNat * 1) (by rw [hL]; simp; omega)).trans (by rw [ovr_next hj c1 c3]; simp)) rfl
            · have t5 : decide ((j : Int) < ((o.length : Nat) : Int)) = false := by rw [decide_eq_false_iff_not]; omega
              ((conv => whnf); repeat ((first | refine Wo ?_ | refine Lt (by decide) ?_ | refine Lf (by decide) ?_ | refine Cl (by decide) ?_ | refine Cr (by decide) ?_ | refine ⟨_, rfl, ?_⟩ | refine Mi rfl ?_); (conv => whnf)))
              refine litE t3 ?_
              ((conv => whnf); repeat ((first | refine Wo ?_ | refine Lt (by decide) ?_ | refine Lf (by decide) ?_ | refine Cl (by decide) ?_ | refine Cr (by decide) ?_ | refine ⟨_, rfl, ?_⟩ | refine Mi rfl ?_); (conv => whnf)))
              refine litE t4 ?_
              ((conv => whnf); repeat ((first | refine Wo ?_ | refine Lt (by decide) ?_ | refine Lf (by decide) ?_ | refine Cl (by decide) ?_ | refine Cr (by decide) ?_ | refine ⟨_, rfl, ?_⟩ | refine Mi rfl ?_); (conv => whnf)))
              refine litE t5 ?_
              ((conv => whnf); repeat ((first | refine Wo ?_ | refine Lt (by decide) ?_ | refine Lf (by decide) ?_ | refine Cl (by decide) ?_ | refine Cr (by decide) ?_ | refine ⟨_, rfl, ?_⟩ | refine Mi rfl ?_); (conv => whnf)))
              refine ⟨by unfold maxLen; omega, by dsimp only; omega, ?_⟩
              ((conv => whnf); repeat ((first | refine Wo ?_ | refine Lt (by decide) ?_ | refine Lf (by decide) ?_ | refine Cl (by decide) ?_ | refine Cr (by decide) ?_ | refine ⟨_, rfl, ?_⟩ | refine Mi rfl ?_); (conv => whnf)))
              refine ih (i + 1) _ ⟨by omega, by omega⟩ ?_
              unfold fpQ frP
              (refine Wk.pin [0, 1, 6] _ _ ?_ ?_ rfl rfl (by decide) rfl rfl <;> (repeat' first | exact trivial | rfl | (refine And.intro ?_ ?_)))
              · exact inE (i64n (n := i + 1) (by omega) (by omega))
              · exact arE (ch_cells hx (.inr ⟨c2, .inr (by omega)⟩)) rfl
          · have t4 : ((s.length : Int) == 1) = false := by simpa using (show ¬ ((s.length : Int) = 1) by omega)
            ((conv => whnf); repeat ((first | refine Wo ?_ | refine Lt (by decide) ?_ | refine Lf (by decide) ?_ | refine Cl (by decide) ?_ | refine Cr (by decide) ?_ | refine ⟨_, rfl, ?_⟩ | refine Mi rfl ?_); (conv => whnf)))
            refine litE t3 ?_
            ((conv => whnf); repeat ((first | refine Wo ?_ | refine Lt (by decide) ?_ | refine Lf (by decide) ?_ | refine Cl (by decide) ?_ | refine Cr (by decide) ?_ | refine ⟨_, rfl, ?_⟩ | refine Mi rfl ?_); (conv => whnf)))
            refine litE t4 ?_
            ((conv => whnf); repeat ((first | refine Wo ?_ | refine Lt (by decide) ?_ | refine Lf (by decide) ?_ | refine Cl (by decide) ?_ | refine Cr (by decide) ?_ | refine ⟨_, rfl, ?_⟩ | refine Mi rfl ?_); (conv => whnf)))
            refine ⟨by unfold maxLen; omega, by dsimp only; omega, ?_⟩
            ((conv => whnf); repeat ((first | refine Wo ?_ | refine Lt (by decide) ?_ | refine Lf (by decide) ?_ | refine Cl (by decide) ?_ | refine Cr (by decide) ?_ | refine ⟨_, rfl, ?_⟩ | refine Mi rfl ?_); (conv => whnf)))
            refine ih (i + 1) _ ⟨by omega, by omega⟩ ?_
            unfold fpQ frP
            (refine Wk.pin [0, 1, 6] _ _ ?_ ?_ rfl rfl (by decide) rfl rfl <;> (repeat' first | exact trivial | rfl | (refine And.intro ?_ ?_)))
            · exact inE (i64n (n := i + 1) (by omega) (by omega))
            · exact arE (ch_cells hx (.inl ⟨c2, by omega⟩)) rfl
        · have t3 : decide ((j : Int) < ((e.length : Nat) : Int)) = false := by rw [decide_eq_false_iff_not]; omega
          ((conv => whnf); repeat ((first | refine Wo ?_ | refine Lt (by decide) ?_ | refine Lf (by decide) ?_ | refine Cl (by decide) ?_ | refine Cr (by decide) ?_ | refine ⟨_, rfl, ?_⟩ | refine Mi rfl ?_); (conv => whnf)))
          refine litE t3 ?_
          ((conv => whnf); repeat ((first | refine Wo ?_ | refine Lt (by decide) ?_ | refine Lf (by decide) ?_ | refine Cl (by decide) ?_ | refine Cr (by decide) ?_ | refine ⟨_, rfl, ?_⟩ | refine Mi rfl ?_); (conv => whnf)))
          refine ⟨by unfold maxLen; omega, by dsimp only; omega, ?_⟩
          ((conv => whnf); repeat ((first | refine Wo ?_ | refine Lt (by decide) ?_ | refine Lf (by decide) ?_ | refine Cl (by decide) ?_ | refine Cr (by decide) ?_ | refine ⟨_, rfl, ?_⟩ | refine Mi rfl ?_); (conv => whnf)))
          refine ih (i + 1) _ ⟨by omega, by omega⟩ ?_
          unfold fpQ frP
          (refine Wk.pin [0, 1, 6] _ _ ?_ ?_ rfl rfl (by decide) rfl rfl <;> (repeat' first | exact trivial | rfl | (refine And.intro ?_ ?_)))
          · exact inE (i64n (n := i + 1) (by omega) (by omega))
          · exact arE (ch_cells hx (by by_cases c2 : s.length = 1; exact .inr ⟨c2, .inl (by omega)⟩; exact .inl ⟨c2, by omega⟩)) rfl
      · unfold fjQ frP
        (refine Wk.pin [0, 1, 2, 4, 5] _ _ ?_ ?_ rfl rfl (by decide) rfl rfl <;> (repeat' first | exact trivial | rfl | (refine And.intro ?_ ?_)))
        exact arE (by rw [ovr_self]; rfl) (by simp)
    · have t2 : decide ((i : Int) < (ins.length : Int)) = false := by rw [decide_eq_false_iff_not]; omega
      rw [List.take_of_length_le (by omega)]
      have hml : (ins.map (chV o n)).length = i := by rw [List.length_map]; omega
      rcases hch with st2 | ⟨hok, hok2, hfi, st2⟩
      · ((conv => whnf); repeat ((first | refine Wo ?_ | refine Lt (by decide) ?_ | refine Lf (by decide) ?_ | refine Cl (by decide) ?_ | refine Cr (by decide) ?_ | refine ⟨_, rfl, ?_⟩ | refine Mi rfl ?_); (conv => whnf)))
        refine litE t2 ?_
        ((conv => whnf); repeat ((first | refine Wo ?_ | refine Lt (by decide) ?_ | refine Lf (by decide) ?_ | refine Cl (by decide) ?_ | refine Cr (by decide) ?_ | refine ⟨_, rfl, ?_⟩ | refine Mi rfl ?_); (conv => whnf)))
        ((conv => whnf); (refine Hc.runs m ?_ ?_; (focus ((repeat ((conv => arg 1; whnf); first | exact Tels.nil | apply Tels.cons | apply Tel.aggs | apply Tel.tups | exact Tel.refl _ | exact Tel.nil1 _ | exact Tel.cap _ _ _ _)); done))); ((conv => whnf); repeat ((first | refine Wo ?_ | refine Lt (by decide) ?_ | refine Lf (by decide) ?_ | refine Cl (by decide) ?_ | refine Cr (by decide) ?_ | refine ⟨_, rfl, ?_⟩ | refine Mi rfl ?_); (conv => whnf))))
        (refine Hc.runs st2 ?_ ?_; (focus ((repeat ((conv => arg 1; whnf); first | exact Tels.nil | apply Tels.cons | apply Tel.aggs | apply Tel.tups | exact Tel.refl _ | exact Tel.nil1 _ | exact Tel.cap _ _ _ _ | exact Tel.eq (dslE rfl (by rw [List.length_map]; omega)))); done)))
        ((conv => whnf); repeat ((first | refine Wo ?_ | refine Lt (by decide) ?_ | refine Lf (by decide) ?_ | refine Cl (by decide) ?_ | refine Cr (by decide) ?_ | refine ⟨_, rfl, ?_⟩ | refine Mi rfl ?_); (conv => whnf)))
        ((conv => whnf); ((repeat ((conv => arg 1; whnf); first | exact Tels.nil | apply Tels.cons | apply Tel.aggs | apply Tel.tups | exact Tel.refl _ | exact Tel.nil1 _ | exact Tel.cap _ _ _ _)); done))
      · ((conv => whnf); repeat ((first | refine Wo ?_ | refine Lt (by decide) ?_ | refine Lf (by decide) ?_ | refine Cl (by decide) ?_ | refine Cr (by decide) ?_ | refine ⟨_, rfl, ?_⟩ | refine Mi rfl ?_); (conv => whnf)))
        refine litE t2 ?_
        ((conv => whnf); repeat ((first | refine Wo ?_ | refine Lt (by decide) ?_ | refine Lf (by decide) ?_ | refine Cl (by decide) ?_ | refine Cr (by decide) ?_ | refine ⟨_, rfl, ?_⟩ | refine Mi rfl ?_); (conv => whnf)))
        ((conv => whnf); (refine Hc.runs m ?_ ?_; (focus ((repeat ((conv => arg 1; whnf); first | exact Tels.nil | apply Tels.cons | apply Tel.aggs | apply Tel.tups | exact Tel.refl _ | exact Tel.nil1 _ | exact Tel.cap _ _ _ _)); done))); ((conv => whnf); repeat ((first | refine Wo ?_ | refine Lt (by decide) ?_ | refine Lf (by decide) ?_ | refine Cl (by decide) ?_ | refine Cr (by decide) ?_ | refine ⟨_, rfl, ?_⟩ | refine Mi rfl ?_); (conv => whnf))))
        (refine Hc.runs st2 ?_ ?_; (focus ((repeat ((conv => arg 1; whnf); first | exact Tels.nil | apply Tels.cons | apply Tel.aggs | apply Tel.tups | exact Tel.refl _ | exact Tel.nil1 _ | exact Tel.cap _ _ _ _ | exact Tel.eq (dslE rfl (by rw [List.length_map]; omega)))); done)))
        ((conv => whnf); repeat ((first | refine Wo ?_ | refine Lt (by decide) ?_ | refine Lf (by decide) ?_ | refine Cl (by decide) ?_ | refine Cr (by decide) ?_ | refine ⟨_, rfl, ?_⟩ | refine Mi rfl ?_); (conv => whnf)))
        refine loop_ind (fun r (x : Nat × FrL) => x.1 + r = n + 1 ∧ x.1 ≤ n ∧ FrOk x.2 ∧ FrOk (chF o n x.2) ∧ x.2.k ≤ x.1 ∧ x.2.n = f.n) (fun x => fkQ ops fold o x.2 n x.1) (fun x h => by omega) ?_ (n + 1) (0, f) ⟨by simp, by simp, hok, hok2, hk0, rfl⟩ _ ?_
        · rintro r3 ⟨q, x⟩ R3 ih3 ⟨hr3, hq, hx1, hx2, hxk, hxn⟩
          dsimp only at *
          unfold fkQ frP
          obtain ⟨s1, s2, s3, s4, s5, s6, s7, s8⟩ := step_full hx1
          obtain ⟨r1, r2, -⟩ := step_full hx2
          by_cases hlt2 : q < n
          · have t3 : decide ((q : Int) < (n : Int)) = true := by rw [decide_eq_true_iff]; omega
            have hch2 := step_ch hx1 hx2 (show x.k < n by omega)
            rw [hch2] at r1 r2
            have t4 : (!((stepF x).2 == (stepF x).2)) = false := by simp
            ((conv => whnf); repeat ((first | refine Wo ?_ | refine Lt (by decide) ?_ | refine Lf (by decide) ?_ | refine Cl (by decide) ?_ | refine Cr (by decide) ?_ | refine ⟨_, rfl, ?_⟩ | refine Mi rfl ?_); (conv => whnf)))
            refine litE t3 ?_
            ((conv => whnf); repeat ((first | refine Wo ?_ | refine Lt (by decide) ?_ | refine Lf (by decide) ?_ | refine Cl (by decide) ?_ | refine Cr (by decide) ?_ | refine ⟨_, rfl, ?_⟩ | refine Mi rfl ?_); (conv => whnf)))
            ((conv => whnf); (refine Hc.runs s1 ?_ ?_; (focus ((repeat ((conv => arg 1; whnf); first | exact Tels.nil | apply Tels.cons | apply Tel.aggs | apply Tel.tups | exact Tel.refl _ | exact Tel.nil1 _ | exact Tel.cap _ _ _ _)); done))); ((conv => whnf); repeat ((first | refine Wo ?_ | refine Lt (by decide) ?_ | refine Lf (by decide) ?_ | refine Cl (by decide) ?_ | refine Cr (by decide) ?_ | refine ⟨_, rfl, ?_⟩ | refine Mi rfl ?_); (conv => whnf))))
            ((conv => whnf); (refine Hc.runs r1 ?_ ?_; (focus ((repeat ((conv => arg 1; whnf); first | exact Tels.nil | apply Tels.cons | apply Tel.aggs | apply Tel.tups | exact Tel.refl _ | exact Tel.nil1 _ | exact Tel.cap _ _ _ _)); done))); ((conv => whnf); repeat ((first | refine Wo ?_ | refine Lt (by decide) ?_ | refine Lf (by decide) ?_ | refine Cl (by decide) ?_ | refine Cr (by decide) ?_ | refine ⟨_, rfl, ?_⟩ | refine Mi rfl ?_); (conv => whnf))))
            refine litE t4 ?_
            ((conv => whnf); repeat ((first | refine Wo ?_ | refine Lt (by decide) ?_ | refine Lf (by decide) ?_ | refine Cl (by decide) ?_ | refine Cr (by decide) ?_ | refine ⟨_, rfl, ?_⟩ | refine Mi rfl ?_); (conv => whnf)))
            refine ih3 (q + 1, (stepF x).1) _ ⟨by dsimp only; omega, by dsimp only; omega, s2, r2, ?_, by dsimp only; omega⟩ ?_
            · dsimp only
              by_cases h0 : (stepF x).2 = 0
              · have := s3 h0 (by omega); omega
              · rw [s8 h0]; omega
            · unfold fkQ frP
              (refine Wk.pin [0, 1, 2] _ _ ?_ ?_ rfl rfl (by decide) rfl rfl <;> (repeat' first | exact trivial | rfl | (refine And.intro ?_ ?_)))
              exact inE (i64n (n := q + 1) (by omega) (by omega))
          · have t3 : decide ((q : Int) < (n : Int)) = false := by rw [decide_eq_false_iff_not]; omega
            have tk : (x.k == x.k) = true := by simp
            have tn : (x.n == x.n) = true := by simp
            have ta : (x.acc.toList == x.acc.toList) = true := by simp
            have rs := rsameV_runs [] [] x.out x.out (by simp) (by have := hx1.outl; omega)
            rw [decide_eq_true ⟨rfl, rfl⟩] at rs
            ((conv => whnf); repeat ((first | refine Wo ?_ | refine Lt (by decide) ?_ | refine Lf (by decide) ?_ | refine Cl (by decide) ?_ | refine Cr (by decide) ?_ | refine ⟨_, rfl, ?_⟩ | refine Mi rfl ?_); (conv => whnf)))
            refine litE t3 ?_
            ((conv => whnf); repeat ((first | refine Wo ?_ | refine Lt (by decide) ?_ | refine Lf (by decide) ?_ | refine Cl (by decide) ?_ | refine Cr (by decide) ?_ | refine ⟨_, rfl, ?_⟩ | refine Mi rfl ?_); (conv => whnf)))
            refine litE tk ?_
            ((conv => whnf); repeat ((first | refine Wo ?_ | refine Lt (by decide) ?_ | refine Lf (by decide) ?_ | refine Cl (by decide) ?_ | refine Cr (by decide) ?_ | refine ⟨_, rfl, ?_⟩ | refine Mi rfl ?_); (conv => whnf)))
            refine litE tn ?_
            ((conv => whnf); repeat ((first | refine Wo ?_ | refine Lt (by decide) ?_ | refine Lf (by decide) ?_ | refine Cl (by decide) ?_ | refine Cr (by decide) ?_ | refine ⟨_, rfl, ?_⟩ | refine Mi rfl ?_); (conv => whnf)))
            refine litE ta ?_
            ((conv => whnf); repeat ((first | refine Wo ?_ | refine Lt (by decide) ?_ | refine Lf (by decide) ?_ | refine Cl (by decide) ?_ | refine Cr (by decide) ?_ | refine ⟨_, rfl, ?_⟩ | refine Mi rfl ?_); (conv => whnf)))
            ((conv => whnf); (refine Hc.flat rs ?_ rfl ?_; (focus ((repeat ((conv => arg 1; whnf); first | exact Tels.nil | apply Tels.cons | apply Tel.aggs | apply Tel.tups | exact Tel.refl _ | exact Tel.nil1 _ | exact Tel.cap _ _ _ _)); done))); ((conv => whnf); repeat ((first | refine Wo ?_ | refine Lt (by decide) ?_ | refine Lf (by decide) ?_ | refine Cl (by decide) ?_ | refine Cr (by decide) ?_ | refine ⟨_, rfl, ?_⟩ | refine Mi rfl ?_); (conv => whnf))))
            ((conv => whnf); ((repeat ((conv => arg 1; whnf); first | exact Tels.nil | apply Tels.cons | apply Tel.aggs | apply Tel.tups | exact Tel.refl _ | exact Tel.nil1 _ | exact Tel.cap _ _ _ _)); done))
        · unfold fkQ frP
          (refine Wk.pin [0, 1, 3] _ _ ?_ ?_ rfl rfl (by decide) rfl rfl <;> (repeat' first | exact trivial | rfl | (refine And.intro ?_ ?_)))
  · refine (Wk.virt 13 25 2 rfl (show 13 < 178 by decide)).trans ?_
    unfold fpQ frP
    (refine Wk.to _ _ ?_ ?_ <;> (repeat' first | exact trivial | rfl | (refine And.intro ?_ ?_)))
    exact inE (by rw [ew]; exact hk)
end
theorem FramePrefix_runs (ops : List OpL) (fold : ByteArray) (ins : List ValL) (o : List ByteArray) (k : Int) (ho : ops.length ≤ 9223372036854775807) (hi : ins.length ≤ 9223372036854775807) (hb : ∀ v ∈ ins, v.1.length ≤ 9223372036854775807 ∧ v.2.length ≤ 9223372036854775807) (hol : o.length ≤ 9223372036854775807) (hoe : ∀ x ∈ o, x.size ≤ maxLen) (hk : (Lit.int .u8 k).wf = true) :
    Runs Tryz.prog 8 [cD ops fold, rV ins, rS o none, kD k] (bD true) := by
  have hk0 : 0 ≤ k ∧ k ≤ 255 := by simp only [Lit.wf, Bool.and_eq_true, decide_eq_true_eq] at hk; exact ⟨hk.1, hk.2⟩
  have f1 := few20_runs ops fold ins ho hi hb
  cases hf : few20 ops ins with
  | false => rw [hf] at f1; exact prefix_no1 f1
  | true =>
    rw [hf] at f1
    by_cases h100 : o.length ≤ 100
    · obtain ⟨b1, b2, b3⟩ := few20_of hf
      have hb' : ∀ v ∈ ins, v.1.length ≤ 100000000 ∧ v.2.length ≤ 100000000 := fun v hv => by have := b3 v hv; omega
      have m := made_runs ops fold (by omega)
      have st := start_runs ops fold ins (by omega) (by omega) hb'
      by_cases he : (startF ops fold ins).2 = 0
      · obtain ⟨ok, e1, e2, e3, e4, e5, e6, e7, n, e8, e9, e10, e11⟩ := start_ok (by omega) hb' he
        have q1 := ok.n1
        have q2 := ok.n2
        obtain ⟨K, rfl⟩ : ∃ K : Nat, k = K := ⟨k.toNat, by omega⟩
        obtain ⟨M, hM⟩ : ∃ M : Nat, (startF ops fold ins).1.n = M := ⟨(startF ops fold ins).1.n.toNat, by omega⟩
        have hw : IntKind.i64.wrap (K : Int) = K := i64w (by omega) (by omega)
        have hlt : K % (M + 1) < M + 1 := Nat.mod_lt _ (by omega)
        have hbc : ∀ v ∈ ins.map (chV o (K % (M + 1))), v.1.length ≤ 100000000 ∧ v.2.length ≤ 100000000 := fun v hv => by
          obtain ⟨u, hu, rfl⟩ := List.mem_map.1 hv
          rw [chV_1, chV_2]
          exact hb' u hu
        have hcl : (ins.map (chV o (K % (M + 1)))).length ≤ 100000000 := by rw [List.length_map]; omega
        have st2 := start_runs ops fold (ins.map (chV o (K % (M + 1)))) (by omega) hcl hbc
        have hs := start_ch o (K % (M + 1)) he
        rw [he] at st
        refine prefix_go (n := K % (M + 1)) h100 (by rw [hw, hM]; exact Nm.tmod_nat K (M + 1)) q1 q2 (by rw [hM]; omega) (by rw [e4]; exact Int.le_refl 0) ?_ b2 (fun v hv => (b3 v hv).2) f1 m st
        rcases hs with hs | hs
        · rw [hs] at st2
          exact .inl st2
        · have ok2 := (start_ok (ops := ops) (fold := fold) hcl hbc (by rw [hs])).1
          rw [hs] at st2 ok2
          exact .inr ⟨ok, ok2, e3, st2⟩
      · rw [start_frz he] at st
        exact prefix_err h100 he f1 m st
    · exact prefix_no2 (by omega) f1
end Go.Proofs.YtjldjhlccedkbaaGreatDoor.Am
end
