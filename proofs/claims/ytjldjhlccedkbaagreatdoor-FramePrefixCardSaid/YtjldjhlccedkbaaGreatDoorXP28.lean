/- What the law leans on, part 29: declarations of several texts of ours, in their order. -/
import Derived.Test.YtjldjhlccedkbaaGreatDoorXP27
section
/- Frames: what the ops make of an element. -/
namespace Go.Proofs.YtjldjhlccedkbaaGreatDoor.Am
open Go Go.RowKit Go.Proofs.YtjldjhlccedkbaaGreatDoor.Sh
open Go.Proofs.YtjldjhlccedkbaaGreatDoor.Nm (numS)
set_option linter.unusedVariables false
set_option linter.unusedSimpArgs false
set_option maxRecDepth 100000
set_option maxHeartbeats 8000000
theorem sd_may {op a b : ByteArray} (ha : mayB a = true) (hb : mayB b = true) (h : (sd op a b).2 = 0) : mayB (sd op a b).1 = true := by
  obtain ⟨x, rfl, hx⟩ := num_mayB ha
  obtain ⟨y, rfl, hy⟩ := num_mayB hb
  obtain ⟨z, hz, e⟩ := (sd_sound op hx hy).2 h
  rw [e]
  exact mayB_num hz
theorem at_may {ins : List ValL} {s k : Nat} (hs : s < ins.length) (he : ∀ v ∈ ins, v.2 ≠ [] ∧ v.2.length ≤ 100000000 ∧ ∀ b ∈ v.2, mayB b = true) : mayB (atF ins s k) = true := by
  have hx : ins.getD s ([], []) = ins[s] := by rw [List.getD_eq_getElem?_getD, List.getElem?_eq_getElem hs]; rfl
  have hv := he ins[s] (List.getElem_mem hs)
  unfold atF
  rw [hx]
  have hpos : 0 < ins[s].2.length := List.length_pos_iff.2 hv.1
  refine hv.2.2 _ ?_
  dsimp only
  rw [List.getD_eq_getElem?_getD, List.getElem?_eq_getElem (show min k (ins[s].2.length - 1) < ins[s].2.length by omega)]
  exact List.getElem_mem _
noncomputable def onQ (ops : List OpL) (fold acc : ByteArray) (ins : List ValL) (n : Int) (k : Nat) (out : List ByteArray) (i : Nat) (st : List ByteArray) : St :=
  { t := pin [(1, .pt 0 0), (4, .pt 1 0), (12, .d (rO ops)), (13, .d (iD ops.length)), (14, .d (iD i))], N := 57,
    h := hpin [some (.st 52 [.d (rO ops), .d (sD fold), .d (rV ins), .d (iD n), .d (iD k), .d (rS out none), .d (sD acc)]), some (.st 131 [.bs 2]), some (.ar 9 1 st.length (st.map sD))], n := 3, lo := 0 }
theorem one_runs {ops : List OpL} {fold acc : ByteArray} {ins : List ValL} {n : Int} {k : Nat} {out : List ByteArray} (hd : deepC ins.length ops 0 = some 1) (hl : ops.length ≤ 200) (hi : ins.length ≤ 100000000) (he : ∀ v ∈ ins, v.2 ≠ [] ∧ v.2.length ≤ 100000000 ∧ ∀ b ∈ v.2, mayB b = true) (hk : k ≤ 100000000) :
    Runs Tryz.prog 71 [frE ops fold ins n k out acc] (.tup [sD (oneC ins k ops []).1, iD (oneC ins k ops []).2]) := by
  refine Runs.wp Go.Proofs.YtjldjhlccedkbaaGreatDoor.Am.hT Go.Proofs.YtjldjhlccedkbaaGreatDoor.Am.hm Tryz.func71 rfl (by decide) ⟨[(14, .first 0 (.first 3 (.alt 1 (.alt 2 (.alt 4 (.first 5 (.first 6 (.first 7 (.first 8 (.first 9 .done))))) .nil) .nil) (.alt 2 (.load 1 [4, 5, 6, 7, 8, 9] (.alt 4 (.first 5 (.first 6 (.first 7 (.first 8 (.first 9 .done))))) .nil)) .nil)))), (16, .first 0 (.alt 1 (.alt 2 (.alt 3 (.first 4 (.first 5 (.first 6 (.first 7 (.first 8 .done))))) .nil) .nil) (.alt 2 (.load 1 [3, 4, 5, 6, 7, 8] (.alt 3 (.first 4 (.first 5 (.first 6 (.first 7 (.first 8 .done))))) .nil)) .nil)))], [0, 1, 2, 3, 4, 6, 7, 8, 9, 12, 13, 14, 15, 19, 20, 26, 30, 41, 51], 57⟩ ?_; ((conv => whnf); repeat ((first | refine Wo ?_ | refine Lt (by decide) ?_ | refine Lf (by decide) ?_ | refine Cl (by decide) ?_ | refine Cr (by decide) ?_ | refine ⟨_, rfl, ?_⟩ | refine Mi rfl ?_); (conv => whnf)))
  refine loop_ind (fun j (x : Nat × List ByteArray) => x.1 + j = ops.length + 1 ∧ x.1 ≤ ops.length ∧ x.2.length ≤ x.1 ∧ (∀ b ∈ x.2, mayB b = true) ∧ deepC ins.length (ops.drop x.1) x.2.length = some 1 ∧ oneC ins k ops [] = oneC ins k (ops.drop x.1) x.2) (fun x => onQ ops fold acc ins n k out x.1 x.2) (fun x h => by omega) ?_ (ops.length + 1) (0, []) ⟨by simp, by simp, by simp, by simp, hd, rfl⟩ _ ?_
  · rintro j ⟨i, st⟩ R ih ⟨hj, hi', hst, hm, hdp, ho⟩
    dsimp only at *
    unfold onQ
    by_cases hlt : i < ops.length
    · have t4 : decide ((i : Int) < (ops.length : Int)) = true := by simpa using hlt
      have hx : ops[i]? = some ops[i] := List.getElem?_eq_getElem hlt
      rw [List.drop_eq_getElem_cons hlt, deepC] at hdp
      rw [List.drop_eq_getElem_cons hlt, oneC] at ho
      generalize ops[i] = o at *
      obtain ⟨⟨kd, sl⟩, tx⟩ := o
      by_cases hn : needsZ ins.length ((kd, sl), tx) < 0 ∨ (st.length : Int) < needsZ ins.length ((kd, sl), tx)
      · rw [if_pos hn] at hdp; cases hdp
      rw [if_neg hn] at hdp
      have hn0 : ¬ needsZ ins.length ((kd, sl), tx) < 0 := fun h => hn (.inl h)
      have hn1 : ¬ (st.length : Int) < needsZ ins.length ((kd, sl), tx) := fun h => hn (.inr h)
      clear hn
      by_cases h2 : kd = 2
      · subst h2
        have hz : needsZ ins.length ((2, sl), tx) = 0 ∧ mayB tx = true := by
          unfold needsZ at hn0 ⊢
          dsimp only at hn0 ⊢
          by_cases hmt : mayB tx = true
          · exact ⟨if_pos (.inr ⟨rfl, hmt⟩), hmt⟩
          · rw [if_neg (by rintro (⟨h, _⟩ | ⟨_, h⟩); cases h; exact hmt h), if_neg (by rintro ⟨h, _⟩; cases h), if_neg (by rintro ⟨h, _⟩; cases h)] at hn0
            exact absurd (by decide) hn0
        rw [hz.1] at hdp
        have ho' : oneC ins k ops [] = oneC ins k (ops.drop (i + 1)) (st ++ [tx]) := ho
        have u1 : ((((2 : Int), sl), tx).1.1 == 1) = false := rfl
        have u2 : ((((2 : Int), sl), tx).1.1 == 2) = true := rfl
        ((conv => whnf); repeat ((first | refine Wo ?_ | refine Lt (by decide) ?_ | refine Lf (by decide) ?_ | refine Cl (by decide) ?_ | refine Cr (by decide) ?_ | refine ⟨_, rfl, ?_⟩ | refine Mi rfl ?_); (conv => whnf)))
        refine Lt t4 ?_
        ((conv => whnf); repeat ((first | refine Wo ?_ | refine Lt (by decide) ?_ | refine Lf (by decide) ?_ | refine Cl (by decide) ?_ | refine Cr (by decide) ?_ | refine ⟨_, rfl, ?_⟩ | refine Mi rfl ?_); (conv => whnf)))
        refine ⟨by omega, by omega, ?_⟩
        ((conv => whnf); repeat ((first | refine Wo ?_ | refine Lt (by decide) ?_ | refine Lf (by decide) ?_ | refine Cl (by decide) ?_ | refine Cr (by decide) ?_ | refine ⟨_, rfl, ?_⟩ | refine Mi rfl ?_); (conv => whnf)))
        refine fm_ld opC_len hx ?_
        ((conv => whnf); repeat ((first | refine Wo ?_ | refine Lt (by decide) ?_ | refine Lf (by decide) ?_ | refine Cl (by decide) ?_ | refine Cr (by decide) ?_ | refine ⟨_, rfl, ?_⟩ | refine Mi rfl ?_); (conv => whnf)))
        refine litE u1 ?_
        ((conv => whnf); repeat ((first | refine Wo ?_ | refine Lt (by decide) ?_ | refine Lf (by decide) ?_ | refine Cl (by decide) ?_ | refine Cr (by decide) ?_ | refine ⟨_, rfl, ?_⟩ | refine Mi rfl ?_); (conv => whnf)))
        refine litE u2 ?_
        ((conv => whnf); repeat ((first | refine Wo ?_ | refine Lt (by decide) ?_ | refine Lf (by decide) ?_ | refine Cl (by decide) ?_ | refine Cr (by decide) ?_ | refine ⟨_, rfl, ?_⟩ | refine Mi rfl ?_); (conv => whnf)))
        ((conv => whnf); refine Hc.inl Go.Proofs.YtjldjhlccedkbaaGreatDoor.Am.hT Go.Proofs.YtjldjhlccedkbaaGreatDoor.Am.hm Tryz.func127 rfl (by decide) ⟨[], [0, 1], 14⟩ ?_; ((conv => whnf); repeat ((first | refine Wo ?_ | refine Lt (by decide) ?_ | refine Lf (by decide) ?_ | refine Cl (by decide) ?_ | refine Cr (by decide) ?_ | refine ⟨_, rfl, ?_⟩ | refine Mi rfl ?_); (conv => whnf))))
        refine ⟨by unfold maxLen; omega, by dsimp only; omega, ?_⟩
        ((conv => whnf); repeat ((first | refine Wo ?_ | refine Lt (by decide) ?_ | refine Lf (by decide) ?_ | refine Cl (by decide) ?_ | refine Cr (by decide) ?_ | refine ⟨_, rfl, ?_⟩ | refine Mi rfl ?_); (conv => whnf)))
        refine ih (i + 1, st ++ [tx]) _ ⟨by dsimp only; omega, by dsimp only; omega, by dsimp only; rw [List.length_append, List.length_singleton]; omega, fun b hb => ?_, by dsimp only; rw [List.length_append, List.length_singleton]; exact hdp, ho'⟩ ?_
        · rcases List.mem_append.1 hb with h | h
          · exact hm b h
          · rw [List.mem_singleton.1 h]; exact hz.2
        dsimp only
        unfold onQ
        (refine Wk.pin [0, 1, 5] _ _ ?_ ?_ rfl rfl (by decide) rfl rfl <;> (repeat' first | exact trivial | rfl | (refine And.intro ?_ ?_)))
        · exact inE (i64n (by simp) (by omega))
        · exact arE (by rw [List.map_append]; rfl) (by simp)
      by_cases h1 : kd = 1
      · subst h1
        have hz : needsZ ins.length ((1, sl), tx) = 0 ∧ 0 ≤ sl ∧ sl < ins.length := by
          unfold needsZ at hn0 ⊢
          dsimp only at hn0 ⊢
          by_cases hmt : 0 ≤ sl ∧ sl < ins.length
          · exact ⟨if_pos (.inl ⟨rfl, hmt⟩), hmt⟩
          · rw [if_neg (by rintro (⟨_, h⟩ | ⟨h, _⟩); exact hmt h; cases h), if_neg (by rintro ⟨h, _⟩; cases h), if_neg (by rintro ⟨h, _⟩; cases h)] at hn0
            exact absurd (by decide) hn0
        rw [hz.1] at hdp
        obtain ⟨s, rfl⟩ := Int.eq_ofNat_of_zero_le hz.2.1
        have hs : s < ins.length := by omega
        have ho' : oneC ins k ops [] = oneC ins k (ops.drop (i + 1)) (st ++ [atF ins s k]) := ho
        have ha := fat_runs (ops := ops) (fold := fold) (acc := acc) (n := n) (out := out) hs (fun v hv => ⟨(he v hv).1, (he v hv).2.1⟩) hk
        have u1 : ((((1 : Int), (s : Int)), tx).1.1 == 1) = true := rfl
        ((conv => whnf); repeat ((first | refine Wo ?_ | refine Lt (by decide) ?_ | refine Lf (by decide) ?_ | refine Cl (by decide) ?_ | refine Cr (by decide) ?_ | refine ⟨_, rfl, ?_⟩ | refine Mi rfl ?_); (conv => whnf)))
        refine Lt t4 ?_
        ((conv => whnf); repeat ((first | refine Wo ?_ | refine Lt (by decide) ?_ | refine Lf (by decide) ?_ | refine Cl (by decide) ?_ | refine Cr (by decide) ?_ | refine ⟨_, rfl, ?_⟩ | refine Mi rfl ?_); (conv => whnf)))
        refine ⟨by omega, by omega, ?_⟩
        ((conv => whnf); repeat ((first | refine Wo ?_ | refine Lt (by decide) ?_ | refine Lf (by decide) ?_ | refine Cl (by decide) ?_ | refine Cr (by decide) ?_ | refine ⟨_, rfl, ?_⟩ | refine Mi rfl ?_); (conv => whnf)))
        refine fm_ld opC_len hx ?_
        ((conv => whnf); repeat ((first | refine Wo ?_ | refine Lt (by decide) ?_ | refine Lf (by decide) ?_ | refine Cl (by decide) ?_ | refine Cr (by decide) ?_ | refine ⟨_, rfl, ?_⟩ | refine Mi rfl ?_); (conv => whnf)))
        refine litE u1 ?_
        ((conv => whnf); repeat ((first | refine Wo ?_ | refine Lt (by decide) ?_ | refine Lf (by decide) ?_ | refine Cl (by decide) ?_ | refine Cr (by decide) ?_ | refine ⟨_, rfl, ?_⟩ | refine Mi rfl ?_); (conv => whnf)))
        ((conv => whnf); (refine Hc.flat ha ?_ rfl ?_; (focus ((repeat ((conv => arg 1; whnf); first | exact Tels.nil | apply Tels.cons | apply Tel.aggs | apply Tel.tups | exact Tel.refl _ | exact Tel.nil1 _ | exact Tel.cap _ _ _ _)); done))); ((conv => whnf); repeat ((first | refine Wo ?_ | refine Lt (by decide) ?_ | refine Lf (by decide) ?_ | refine Cl (by decide) ?_ | refine Cr (by decide) ?_ | refine ⟨_, rfl, ?_⟩ | refine Mi rfl ?_); (conv => whnf))))
        ((conv => whnf); refine Hc.inl Go.Proofs.YtjldjhlccedkbaaGreatDoor.Am.hT Go.Proofs.YtjldjhlccedkbaaGreatDoor.Am.hm Tryz.func127 rfl (by decide) ⟨[], [0, 1], 14⟩ ?_; ((conv => whnf); repeat ((first | refine Wo ?_ | refine Lt (by decide) ?_ | refine Lf (by decide) ?_ | refine Cl (by decide) ?_ | refine Cr (by decide) ?_ | refine ⟨_, rfl, ?_⟩ | refine Mi rfl ?_); (conv => whnf))))
        refine ⟨by unfold maxLen; omega, by dsimp only; omega, ?_⟩
        ((conv => whnf); repeat ((first | refine Wo ?_ | refine Lt (by decide) ?_ | refine Lf (by decide) ?_ | refine Cl (by decide) ?_ | refine Cr (by decide) ?_ | refine ⟨_, rfl, ?_⟩ | refine Mi rfl ?_); (conv => whnf)))
        refine ih (i + 1, st ++ [atF ins s k]) _ ⟨by dsimp only; omega, by dsimp only; omega, by dsimp only; rw [List.length_append, List.length_singleton]; omega, fun b hb => ?_, by dsimp only; rw [List.length_append, List.length_singleton]; exact hdp, ho'⟩ ?_
        · rcases List.mem_append.1 hb with h | h
          · exact hm b h
          · rw [List.mem_singleton.1 h]; exact at_may hs he
        dsimp only
        unfold onQ
        (refine Wk.pin [0, 1, 5] _ _ ?_ ?_ rfl rfl (by decide) rfl rfl <;> (repeat' first | exact trivial | rfl | (refine And.intro ?_ ?_)))
        · exact inE (i64n (by simp) (by omega))
        · exact arE (by rw [List.map_append]; rfl) (by simp)
      by_cases h3 : kd = 3
      · subst h3
        have hz : needsZ ins.length ((3, sl), tx) = 2 ∧ sgB whS tx = true := by
          unfold needsZ at hn0 ⊢
          dsimp only at hn0 ⊢
          have g1 : ¬ ((3 : Int) = 1 ∧ 0 ≤ sl ∧ sl < ins.length ∨ (3 : Int) = 2 ∧ mayB tx = true) := by rintro (⟨h, _⟩ | ⟨h, _⟩) <;> cases h
          rw [if_neg g1] at hn0 ⊢
          by_cases hmt : sgB whS tx = true
          · exact ⟨if_pos ⟨rfl, hmt⟩, hmt⟩
          · rw [if_neg (by rintro ⟨_, h⟩; exact hmt h), if_neg (by rintro ⟨h, _⟩; cases h)] at hn0
            exact absurd (by decide) hn0
        rw [hz.1] at hdp hn1
        obtain ⟨p, a, b, rfl⟩ : ∃ p a b, st = p ++ [a, b] := by
          rcases snoc_cases st with rfl | ⟨q, b, rfl⟩
          · simp at hn1
          · rcases snoc_cases q with rfl | ⟨p, a, rfl⟩
            · simp at hn1
            · exact ⟨p, a, b, by simp⟩
        have hL : (p ++ [a, b]).length = p.length + 2 := by simp
        have e1 : IntKind.i64.wrap ((((p ++ [a, b]).length : Nat) : Int) - 1) = ((p.length + 1 : Nat) : Int) := by rw [hL]; exact i64n (by omega) (by omega)
        have e2 : IntKind.i64.wrap ((((IntKind.i64.wrap ((((p ++ [a, b]).length : Nat) : Int) - 1)).toNat : Nat) : Int) - 1) = ((p.length : Nat) : Int) := by rw [e1, Int.toNat_natCast]; exact i64n (by omega) (by omega)
        have x1 : ((p ++ [a, b]).map sD)[(IntKind.i64.wrap ((((p ++ [a, b]).length : Nat) : Int) - 1)).toNat * 1]? = some (sD b) := by rw [e1, Int.toNat_natCast, Nat.mul_one]; simp
        have x2 : (List.take ((IntKind.i64.wrap ((((p ++ [a, b]).length : Nat) : Int) - 1)).toNat * 1) ((p ++ [a, b]).map sD))[(IntKind.i64.wrap ((((IntKind.i64.wrap ((((p ++ [a, b]).length : Nat) : Int) - 1)).toNat : Nat) : Int) - 1)).toNat * 1]? = some (sD a) := by rw [e2, e1, Int.toNat_natCast, Int.toNat_natCast, Nat.mul_one, Nat.mul_one, List.getElem?_take_of_lt (by omega)]; simp
        have ma := hm a (by simp)
        have mb := hm b (by simp)
        have hD := sd_runs (wh_dy hz.2) ma mb
        have hsm := sd_may (op := tx) ma mb
        have ho' : oneC ins k ops [] = if (sd tx a b).2 = 0 then oneC ins k (ops.drop (i + 1)) (p ++ [(sd tx a b).1]) else (ByteArray.empty, (sd tx a b).2) := by
          rw [ho]
          have d1 : (p ++ [a, b]).dropLast = p ++ [a] := by rw [show p ++ [a, b] = (p ++ [a]) ++ [b] by simp, List.dropLast_concat]
          have d2 : (p ++ [a, b]).getLastD ByteArray.empty = b := by rw [show p ++ [a, b] = (p ++ [a]) ++ [b] by simp]; simp
          dsimp only
          rw [if_neg (by decide), if_neg (by decide), if_pos rfl, d1, d2, List.dropLast_concat]
          simp
        generalize sd tx a b = r at *
        obtain ⟨r, e⟩ := r
        dsimp only at hsm ho'
        have u1 : ((((3 : Int), sl), tx).1.1 == 1) = false := rfl
        have u2 : ((((3 : Int), sl), tx).1.1 == 2) = false := rfl
        have u3 : ((((3 : Int), sl), tx).1.1 == 3) = true := rfl
        have t0 : e ≠ 0 → (!(((r, e) : ByteArray × Int).2 == 0)) = true := fun h => by simpa using h
        by_cases h0 : e = 0
        · subst h0
          rw [if_pos rfl] at ho'
          ((conv => whnf); repeat ((first | refine Wo ?_ | refine Lt (by decide) ?_ | refine Lf (by decide) ?_ | refine Cl (by decide) ?_ | refine Cr (by decide) ?_ | refine ⟨_, rfl, ?_⟩ | refine Mi rfl ?_); (conv => whnf)))
          refine Lt t4 ?_
          ((conv => whnf); repeat ((first | refine Wo ?_ | refine Lt (by decide) ?_ | refine Lf (by decide) ?_ | refine Cl (by decide) ?_ | refine Cr (by decide) ?_ | refine ⟨_, rfl, ?_⟩ | refine Mi rfl ?_); (conv => whnf)))
          refine ⟨by omega, by omega, ?_⟩
          ((conv => whnf); repeat ((first | refine Wo ?_ | refine Lt (by decide) ?_ | refine Lf (by decide) ?_ | refine Cl (by decide) ?_ | refine Cr (by decide) ?_ | refine ⟨_, rfl, ?_⟩ | refine Mi rfl ?_); (conv => whnf)))
          refine fm_ld opC_len hx ?_
          ((conv => whnf); repeat ((first | refine Wo ?_ | refine Lt (by decide) ?_ | refine Lf (by decide) ?_ | refine Cl (by decide) ?_ | refine Cr (by decide) ?_ | refine ⟨_, rfl, ?_⟩ | refine Mi rfl ?_); (conv => whnf)))
          refine litE u1 ?_
          ((conv => whnf); repeat ((first | refine Wo ?_ | refine Lt (by decide) ?_ | refine Lf (by decide) ?_ | refine Cl (by decide) ?_ | refine Cr (by decide) ?_ | refine ⟨_, rfl, ?_⟩ | refine Mi rfl ?_); (conv => whnf)))
          refine litE u2 ?_
          ((conv => whnf); repeat ((first | refine Wo ?_ | refine Lt (by decide) ?_ | refine Lf (by decide) ?_ | refine Cl (by decide) ?_ | refine Cr (by decide) ?_ | refine ⟨_, rfl, ?_⟩ | refine Mi rfl ?_); (conv => whnf)))
          refine litE u3 ?_
          ((conv => whnf); repeat ((first | refine Wo ?_ | refine Lt (by decide) ?_ | refine Lf (by decide) ?_ | refine Cl (by decide) ?_ | refine Cr (by decide) ?_ | refine ⟨_, rfl, ?_⟩ | refine Mi rfl ?_); (conv => whnf)))
          (((conv => whnf); refine Hc.inl Go.Proofs.YtjldjhlccedkbaaGreatDoor.Am.hT Go.Proofs.YtjldjhlccedkbaaGreatDoor.Am.hm Tryz.func126 rfl (by decide) ⟨[(1, .first 0 (.first 1 (.first 2 (.first 4 (.first 5 (.first 6 (.load 3 [10, 11, 12] (.load 7 [8, 9, 10, 11, 12] (.first 8 (.first 9 (.first 10 (.load 11 [12] (.first 12 .done))))))))))))), (2, .first 0 (.first 1 (.first 2 (.first 3 (.first 5 (.first 6 (.first 7 (.load 4 [11, 12, 13, 14] (.load 8 [9, 10, 11, 12, 13, 14] (.first 9 (.first 10 (.alt 11 (.first 12 (.first 13 (.alt 14 .done .nil))) .nil))))))))))))], [0, 2, 3], 31⟩ ?_; ((conv => whnf); repeat ((first | refine Wo ?_ | refine Lt (by decide) ?_ | refine Lf (by decide) ?_ | refine Cl (by decide) ?_ | refine Cr (by decide) ?_ | refine ⟨_, rfl, ?_⟩ | refine Mi rfl ?_); (conv => whnf)))); (refine And.intro (by decide +kernel) ?_; apply Exists.intro; apply And.intro; focus ((repeat' ((conv => whnf); first | exact trivial | refine Wo ?_ | refine Lt (by decide) ?_ | refine Lf (by decide) ?_ | refine Cl (by decide) ?_ | refine Cr (by decide) ?_ | refine ⟨_, rfl, ?_⟩ | refine Mi rfl ?_ | (first | refine ⟨_, x1, ?_⟩ | refine ⟨by rw [e1]; omega, by rw [e1]; omega, ?_⟩) | (refine And.intro ?_ ?_))); all_goals (first | ((conv => whnf); exact Wk.frc (keep := [0, 2, 3]) (N := 31) (by (conv => whnf); first | done | exact rfl)) | (first | decide | rfl | assumption | omega | (dsimp only; omega) | (unfold maxLen; omega) | ((try dsimp only [maxLen]); simp only [List.length_append, List.length_cons, List.length_nil, List.length_map, List.length_range, List.length_set, List.length_replicate]; omega) | ((try dsimp only [maxLen]); simp only [IntKind.wrap_i64, IntKind.wrap_u64, List.length_append, List.length_cons, List.length_nil, List.length_map, List.length_range, List.length_set, List.length_replicate]; omega) | ((try dsimp only [maxLen]); simp only [List.length_append, List.length_cons, List.length_nil, List.length_map, List.length_range, List.length_set, List.length_replicate] at *; omega))))); ((conv => whnf); repeat ((first | refine Wo ?_ | refine Lt (by decide) ?_ | refine Lf (by decide) ?_ | refine Cl (by decide) ?_ | refine Cr (by decide) ?_ | refine ⟨_, rfl, ?_⟩ | refine Mi rfl ?_); (conv => whnf))); (refine And.intro (by decide +kernel) ?_; apply Exists.intro; apply And.intro; focus ((repeat' ((conv => whnf); first | exact trivial | refine Wo ?_ | refine Lt (by decide) ?_ | refine Lf (by decide) ?_ | refine Cl (by decide) ?_ | refine Cr (by decide) ?_ | refine ⟨_, rfl, ?_⟩ | refine Mi rfl ?_ | (first | refine ⟨by rw [e1]; omega, by rw [e1]; omega, ?_⟩) | (refine And.intro ?_ ?_))); all_goals (first | ((conv => whnf); exact Wk.frc (keep := [0, 2, 3]) (N := 31) (by (conv => whnf); first | done | exact rfl)) | (first | decide | rfl | assumption | omega | (dsimp only; omega) | (unfold maxLen; omega) | ((try dsimp only [maxLen]); simp only [List.length_append, List.length_cons, List.length_nil, List.length_map, List.length_range, List.length_set, List.length_replicate]; omega) | ((try dsimp only [maxLen]); simp only [IntKind.wrap_i64, IntKind.wrap_u64, List.length_append, List.length_cons, List.length_nil, List.length_map, List.length_range, List.length_set, List.length_replicate]; omega) | ((try dsimp only [maxLen]); simp only [List.length_append, List.length_cons, List.length_nil, List.length_map, List.length_range, List.length_set, List.length_replicate] at *; omega))))); ((conv => whnf); repeat ((first | refine Wo ?_ | refine Lt (by decide) ?_ | refine Lf (by decide) ?_ | refine Cl (by decide) ?_ | refine Cr (by decide) ?_ | refine ⟨_, rfl, ?_⟩ | refine Mi rfl ?_); (conv => whnf))))
          (refine And.intro (by decide +kernel) ?_; apply Exists.intro; apply And.intro; focus ((repeat' ((conv => whnf); first | exact trivial | refine Wo ?_ | refine Lt (by decide) ?_ | refine Lf (by decide) ?_ | refine Cl (by decide) ?_ | refine Cr (by decide) ?_ | refine ⟨_, rfl, ?_⟩ | refine Mi rfl ?_ | (first | (refine Hc.flat hD ?_ rfl ?_; (focus ((repeat ((conv => arg 1; whnf); first | exact Tels.nil | apply Tels.cons | apply Tel.aggs | apply Tel.tups | exact Tel.refl _ | exact Tel.nil1 _ | exact Tel.cap _ _ _ _)); done))) | (((conv => whnf); refine Hc.inl Go.Proofs.YtjldjhlccedkbaaGreatDoor.Am.hT Go.Proofs.YtjldjhlccedkbaaGreatDoor.Am.hm Tryz.func126 rfl (by decide) ⟨[(1, .first 0 (.first 1 (.first 2 (.first 4 (.first 5 (.first 6 (.load 3 [10, 11, 12] (.load 7 [8, 9, 10, 11, 12] (.first 8 (.first 9 (.first 10 (.load 11 [12] (.first 12 .done))))))))))))), (2, .first 0 (.first 1 (.first 2 (.first 3 (.first 5 (.first 6 (.first 7 (.load 4 [11, 12, 13, 14] (.load 8 [9, 10, 11, 12, 13, 14] (.first 9 (.first 10 (.alt 11 (.first 12 (.first 13 (.alt 14 .done .nil))) .nil))))))))))))], [0, 2, 3], 31⟩ ?_; ((conv => whnf); repeat ((first | refine Wo ?_ | refine Lt (by decide) ?_ | refine Lf (by decide) ?_ | refine Cl (by decide) ?_ | refine Cr (by decide) ?_ | refine ⟨_, rfl, ?_⟩ | refine Mi rfl ?_); (conv => whnf)))); (refine And.intro (by decide +kernel) ?_; apply Exists.intro; apply And.intro; focus ((repeat' ((conv => whnf); first | exact trivial | refine Wo ?_ | refine Lt (by decide) ?_ | refine Lf (by decide) ?_ | refine Cl (by decide) ?_ | refine Cr (by decide) ?_ | refine ⟨_, rfl, ?_⟩ | refine Mi rfl ?_ | (first | refine ⟨_, x2, ?_⟩ | refine ⟨by rw [e2]; omega, by rw [e2]; omega, ?_⟩) | (refine And.intro ?_ ?_))); all_goals (first | ((conv => whnf); exact Wk.frc (keep := [0, 2, 3]) (N := 31) (by (conv => whnf); first | done | exact rfl)) | (first | decide | rfl | assumption | omega | (dsimp only; omega) | (unfold maxLen; omega) | ((try dsimp only [maxLen]); simp only [List.length_append, List.length_cons, List.length_nil, List.length_map, List.length_range, List.length_set, List.length_replicate]; omega) | ((try dsimp only [maxLen]); simp only [IntKind.wrap_i64, IntKind.wrap_u64, List.length_append, List.length_cons, List.length_nil, List.length_map, List.length_range, List.length_set, List.length_replicate]; omega) | ((try dsimp only [maxLen]); simp only [List.length_append, List.length_cons, List.length_nil, List.length_map, List.length_range, List.length_set, List.length_replicate] at *; omega))))); ((conv => whnf); repeat ((first | refine Wo ?_ | refine Lt (by decide) ?_ | refine Lf (by decide) ?_ | refine Cl (by decide) ?_ | refine Cr (by decide) ?_ | refine ⟨_, rfl, ?_⟩ | refine Mi rfl ?_); (conv => whnf))); (refine And.intro (by decide +kernel) ?_; apply Exists.intro; apply And.intro; focus ((repeat' ((conv => whnf); first | exact trivial | refine Wo ?_ | refine Lt (by decide) ?_ | refine Lf (by decide) ?_ | refine Cl (by decide) ?_ | refine Cr (by decide) ?_ | refine ⟨_, rfl, ?_⟩ | refine Mi rfl ?_ | (first | refine ⟨by rw [e2]; omega, by rw [e2]; omega, ?_⟩) | (refine And.intro ?_ ?_))); all_goals (first | ((conv => whnf); exact Wk.frc (keep := [0, 2, 3]) (N := 31) (by (conv => whnf); first | done | exact rfl)) | (first | decide | rfl | assumption | omega | (dsimp only; omega) | (unfold maxLen; omega) | ((try dsimp only [maxLen]); simp only [List.length_append, List.length_cons, List.length_nil, List.length_map, List.length_range, List.length_set, List.length_replicate]; omega) | ((try dsimp only [maxLen]); simp only [IntKind.wrap_i64, IntKind.wrap_u64, List.length_append, List.length_cons, List.length_nil, List.length_map, List.length_range, List.length_set, List.length_replicate]; omega) | ((try dsimp only [maxLen]); simp only [List.length_append, List.length_cons, List.length_nil, List.length_map, List.length_range, List.length_set, List.length_replicate] at *; omega))))); ((conv => whnf); repeat ((first | refine Wo ?_ | refine Lt (by decide) ?_ | refine Lf (by decide) ?_ | refine Cl (by decide) ?_ | refine Cr (by decide) ?_ | refine ⟨_, rfl, ?_⟩ | refine Mi rfl ?_); (conv => whnf))))) | (refine And.intro ?_ ?_))); all_goals (first | ((conv => whnf); exact Wk.frc (keep := [0, 1, 2, 3, 4, 6, 7, 8, 9, 12, 13, 14, 15, 19, 20, 26, 30, 41, 51]) (N := 57) (by (conv => whnf); first | done | exact rfl)) | (first | decide | rfl | assumption | omega | (dsimp only; omega) | (unfold maxLen; omega) | ((try dsimp only [maxLen]); simp only [List.length_append, List.length_cons, List.length_nil, List.length_map, List.length_range, List.length_set, List.length_replicate]; omega) | ((try dsimp only [maxLen]); simp only [IntKind.wrap_i64, IntKind.wrap_u64, List.length_append, List.length_cons, List.length_nil, List.length_map, List.length_range, List.length_set, List.length_replicate]; omega) | ((try dsimp only [maxLen]); simp only [List.length_append, List.length_cons, List.length_nil, List.length_map, List.length_range, List.length_set, List.length_replicate] at *; omega)))))
          ((conv => whnf); repeat ((first | refine Wo ?_ | refine Lt (by decide) ?_ | refine Lf (by decide) ?_ | refine Cl (by decide) ?_ | refine Cr (by decide) ?_ | refine ⟨_, rfl, ?_⟩ | refine Mi rfl ?_); (conv => whnf)))
          refine litE (show (!(((r, (0 : Int)) : ByteArray × Int).2 == 0)) = false from rfl) ?_
          ((conv => whnf); repeat ((first | refine Wo ?_ | refine Lt (by decide) ?_ | refine Lf (by decide) ?_ | refine Cl (by decide) ?_ | refine Cr (by decide) ?_ | refine ⟨_, rfl, ?_⟩ | refine Mi rfl ?_); (conv => whnf)))
          ((conv => whnf); refine Hc.inl Go.Proofs.YtjldjhlccedkbaaGreatDoor.Am.hT Go.Proofs.YtjldjhlccedkbaaGreatDoor.Am.hm Tryz.func127 rfl (by decide) ⟨[], [0, 1], 14⟩ ?_; ((conv => whnf); repeat ((first | refine Wo ?_ | refine Lt (by decide) ?_ | refine Lf (by decide) ?_ | refine Cl (by decide) ?_ | refine Cr (by decide) ?_ | refine ⟨_, rfl, ?_⟩ | refine Mi rfl ?_); (conv => whnf))))
          refine ⟨by rw [e2]; unfold maxLen; omega, by rw [e2]; dsimp only; omega, ?_⟩
          ((conv => whnf); repeat ((first | refine Wo ?_ | refine Lt (by decide) ?_ | refine Lf (by decide) ?_ | refine Cl (by decide) ?_ | refine Cr (by decide) ?_ | refine ⟨_, rfl, ?_⟩ | refine Mi rfl ?_); (conv => whnf)))
          refine ih (i + 1, p ++ [r]) _ ⟨by dsimp only; omega, by dsimp only; omega, by dsimp only; rw [List.length_append, List.length_singleton]; omega, fun c hc => ?_, by dsimp only; rw [List.length_append, List.length_singleton]; rw [hL] at hdp; exact (congrArg (deepC _ _) (by omega)).trans hdp, ho'⟩ ?_
          · rcases List.mem_append.1 hc with h | h
            · exact hm c (by simp [h])
            · rw [List.mem_singleton.1 h]; exact hsm rfl
          dsimp only
          unfold onQ
          (refine Wk.pin [0, 1, 7] _ _ ?_ ?_ rfl rfl (by decide) rfl rfl <;> (repeat' first | exact trivial | rfl | (refine And.intro ?_ ?_)))
          · exact inE (i64n (by simp) (by omega))
          · exact arE (by rw [e2, e1, Int.toNat_natCast, Int.toNat_natCast, Nat.mul_one, Nat.mul_one, List.take_take, Nat.min_eq_left (by omega)]; simp) (by rw [e2]; simp)
        · rw [if_neg h0] at ho'
          rw [ho']
          ((conv => whnf); repeat ((first | refine Wo ?_ | refine Lt (by decide) ?_ | refine Lf (by decide) ?_ | refine Cl (by decide) ?_ | refine Cr (by decide) ?_ | refine ⟨_, rfl, ?_⟩ | refine Mi rfl ?_); (conv => whnf)))
          refine Lt t4 ?_
          ((conv => whnf); repeat ((first | refine Wo ?_ | refine Lt (by decide) ?_ | refine Lf (by decide) ?_ | refine Cl (by decide) ?_ | refine Cr (by decide) ?_ | refine ⟨_, rfl, ?_⟩ | refine Mi rfl ?_); (conv => whnf)))
          refine ⟨by omega, by omega, ?_⟩
          ((conv => whnf); repeat ((first | refine Wo ?_ | refine Lt (by decide) ?_ | refine Lf (by decide) ?_ | refine Cl (by decide) ?_ | refine Cr (by decide) ?_ | refine ⟨_, rfl, ?_⟩ | refine Mi rfl ?_); (conv => whnf)))
          refine fm_ld opC_len hx ?_
          ((conv => whnf); repeat ((first | refine Wo ?_ | refine Lt (by decide) ?_ | refine Lf (by decide) ?_ | refine Cl (by decide) ?_ | refine Cr (by decide) ?_ | refine ⟨_, rfl, ?_⟩ | refine Mi rfl ?_); (conv => whnf)))
          refine litE u1 ?_
          ((conv => whnf); repeat ((first | refine Wo ?_ | refine Lt (by decide) ?_ | refine Lf (by decide) ?_ | refine Cl (by decide) ?_ | refine Cr (by decide) ?_ | refine ⟨_, rfl, ?_⟩ | refine Mi rfl ?_); (conv => whnf)))
          refine litE u2 ?_
          ((conv => whnf); repeat ((first | refine Wo ?_ | refine Lt (by decide) ?_ | refine Lf (by decide) ?_ | refine Cl (by decide) ?_ | refine Cr (by decide) ?_ | refine ⟨_, rfl, ?_⟩ | refine Mi rfl ?_); (conv => whnf)))
          refine litE u3 ?_
          ((conv => whnf); repeat ((first | refine Wo ?_ | refine Lt (by decide) ?_ | refine Lf (by decide) ?_ | refine Cl (by decide) ?_ | refine Cr (by decide) ?_ | refine ⟨_, rfl, ?_⟩ | refine Mi rfl ?_); (conv => whnf)))
          (((conv => whnf); refine Hc.inl Go.Proofs.YtjldjhlccedkbaaGreatDoor.Am.hT Go.Proofs.YtjldjhlccedkbaaGreatDoor.Am.hm Tryz.func126 rfl (by decide) ⟨[(1, .first 0 (.first 1 (.first 2 (.first 4 (.first 5 (.first 6 (.load 3 [10, 11, 12] (.load 7 [8, 9, 10, 11, 12] (.first 8 (.first 9 (.first 10 (.load 11 [12] (.first 12 .done))))))))))))), (2, .first 0 (.first 1 (.first 2 (.first 3 (.first 5 (.first 6 (.first 7 (.load 4 [11, 12, 13, 14] (.load 8 [9, 10, 11, 12, 13, 14] (.first 9 (.first 10 (.alt 11 (.first 12 (.first 13 (.alt 14 .done .nil))) .nil))))))))))))], [0, 2, 3], 31⟩ ?_; ((conv => whnf); repeat ((first | refine Wo ?_ | refine Lt (by decide) ?_ | refine Lf (by decide) ?_ | refine Cl (by decide) ?_ | refine Cr (by decide) ?_ | refine ⟨_, rfl, ?_⟩ | refine Mi rfl ?_); (conv => whnf)))); (refine And.intro (by decide +kernel) ?_; apply Exists.intro; apply And.intro; focus ((repeat' ((conv => whnf); first | exact trivial | refine Wo ?_ | refine Lt (by decide) ?_ | refine Lf (by decide) ?_ | refine Cl (by decide) ?_ | refine Cr (by decide) ?_ | refine ⟨_, rfl, ?_⟩ | refine Mi rfl ?_ | (first | refine ⟨_, x1, ?_⟩ | refine ⟨by rw [e1]; omega, by rw [e1]; omega, ?_⟩) | (refine And.intro ?_ ?_))); all_goals (first | ((conv => whnf); exact Wk.frc (keep := [0, 2, 3]) (N := 31) (by (conv => whnf); first | done | exact rfl)) | (first | decide | rfl | assumption | omega | (dsimp only; omega) | (unfold maxLen; omega) | ((try dsimp only [maxLen]); simp only [List.length_append, List.length_cons, List.length_nil, List.length_map, List.length_range, List.length_set, List.length_replicate]; omega) | ((try dsimp only [maxLen]); simp only [IntKind.wrap_i64, IntKind.wrap_u64, List.length_append, List.length_cons, List.length_nil, List.length_map, List.length_range, List.length_set, List.length_replicate]; omega) | ((try dsimp only [maxLen]); simp only [List.length_append, List.length_cons, List.length_nil, List.length_map, List.length_range, List.length_set, List.length_replicate] at *; omega))))); ((conv => whnf); repeat ((first | refine Wo ?_ | refine Lt (by decide) ?_ | refine Lf (by decide) ?_ | refine Cl (by decide) ?_ | refine Cr (by decide) ?_ | refine ⟨_, rfl, ?_⟩ | refine Mi rfl ?_); (conv => whnf))); (refine And.intro (by decide +kernel) ?_; apply Exists.intro; apply And.intro; focus ((repeat' ((conv => whnf); first | exact trivial | refine Wo ?_ | refine Lt (by decide) ?_ | refine Lf (by decide) ?_ | refine Cl (by decide) ?_ | refine Cr (by decide) ?_ | refine ⟨_, rfl, ?_⟩ | refine Mi rfl ?_ | (first | refine ⟨by rw [e1]; omega, by rw [e1]; omega, ?_⟩) | (refine And.intro ?_ ?_))); all_goals (first | ((conv => whnf); exact Wk.frc (keep := [0, 2, 3]) (N := 31) (by (conv => whnf); first | done | exact rfl)) | (first | decide | rfl | assumption | omega | (dsimp only; omega) | (unfold maxLen; omega) | ((try dsimp only [maxLen]); simp only [List.length_append, List.length_cons, List.length_nil, List.length_map, List.length_range, List.length_set, List.length_replicate]; omega) | ((try dsimp only [maxLen]); simp only [IntKind.wrap_i64, IntKind.wrap_u64, List.length_append, List.length_cons, List.length_nil, List.length_map, List.length_range, List.length_set, List.length_replicate]; omega) | ((try dsimp only [maxLen]); simp only [List.length_append, List.length_cons, List.length_nil, List.length_map, List.length_range, List.length_set, List.length_replicate] at *; omega))))); ((conv => whnf); repeat ((first | refine Wo ?_ | refine Lt (by decide) ?_ | refine Lf (by decide) ?_ | refine Cl (by decide) ?_ | refine Cr (by decide) ?_ | refine ⟨_, rfl, ?_⟩ | refine Mi rfl ?_); (conv => whnf))))
          (refine And.intro (by decide +kernel) ?_; apply Exists.intro; apply And.intro; focus ((repeat' ((conv => whnf); first | exact trivial | refine Wo ?_ | refine Lt (by decide) ?_ | refine Lf (by decide) ?_ | refine Cl (by decide) ?_ | refine Cr (by decide) ?_ | refine ⟨_, rfl, ?_⟩ | refine Mi rfl ?_ | (first | (refine Hc.flat hD ?_ rfl ?_; (focus ((repeat ((conv => arg 1; whnf); first | exact Tels.nil | apply Tels.cons | apply Tel.aggs | apply Tel.tups | exact Tel.refl _ | exact Tel.nil1 _ | exact Tel.cap _ _ _ _)); done))) | (((conv => whnf); refine Hc.inl Go.Proofs.YtjldjhlccedkbaaGreatDoor.Am.hT Go.Proofs.YtjldjhlccedkbaaGreatDoor.Am.hm Tryz.func126 rfl (by decide) ⟨[(1, .first 0 (.first 1 (.first 2 (.first 4 (.first 5 (.first 6 (.load 3 [10, 11, 12] (.load 7 [8, 9, 10, 11, 12] (.first 8 (.first 9 (.first 10 (.load 11 [12] (.first 12 .done))))))))))))), (2, .first 0 (.first 1 (.first 2 (.first 3 (.first 5 (.first 6 (.first 7 (.load 4 [11, 12, 13, 14] (.load 8 [9, 10, 11, 12, 13, 14] (.first 9 (.first 10 (.alt 11 (.first 12 (.first 13 (.alt 14 .done .nil))) .nil))))))))))))], [0, 2, 3], 31⟩ ?_; ((conv => whnf); repeat ((first | refine Wo ?_ | refine Lt (by decide) ?_ | refine Lf (by decide) ?_ | refine Cl (by decide) ?_ | refine Cr (by decide) ?_ | refine ⟨_, rfl, ?_⟩ | refine Mi rfl ?_); (conv => whnf)))); (refine And.intro (by decide +kernel) ?_; apply Exists.intro; apply And.intro; focus ((repeat' ((conv => whnf); first | exact trivial | refine Wo ?_ | refine Lt (by decide) ?_ | refine Lf (by decide) ?_ | refine Cl (by decide) ?_ | refine Cr (by decide) ?_ | refine ⟨_, rfl, ?_⟩ | refine Mi rfl ?_ | (first | refine ⟨_, x2, ?_⟩ | refine ⟨by rw [e2]; omega, by rw [e2]; omega, ?_⟩) | (refine And.intro ?_ ?_))); all_goals (first | ((conv => whnf); exact Wk.frc (keep := [0, 2, 3]) (N := 31) (by (conv => whnf); first | done | exact rfl)) | (first | decide | rfl | assumption | omega | (dsimp only; omega) | (unfold maxLen; omega) | ((try dsimp only [maxLen]); simp only [List.length_append, List.length_cons, List.length_nil, List.length_map, List.length_range, List.length_set, List.length_replicate]; omega) | ((try dsimp only [maxLen]); simp only [IntKind.wrap_i64, IntKind.wrap_u64, List.length_append, List.length_cons, List.length_nil, List.length_map, List.length_range, List.length_set, List.length_replicate]; omega) | ((try dsimp only [maxLen]); simp only [List.length_append, List.length_cons, List.length_nil, List.length_map, List.length_range, List.length_set, List.length_replicate] at *; omega))))); ((conv => whnf); repeat ((first | refine Wo ?_ | refine Lt (by decide) ?_ | refine Lf (by decide) ?_ | refine Cl (by decide) ?_ | refine Cr (by decide) ?_ | refine ⟨_, rfl, ?_⟩ | refine Mi rfl ?_); (conv => whnf))); (refine And.intro (by decide +kernel) ?_; apply Exists.intro; apply And.intro; focus ((repeat' ((conv => whnf); first | exact trivial | refine Wo ?_ | refine Lt (by decide) ?_ | refine Lf (by decide) ?_ | refine Cl (by decide) ?_ | refine Cr (by decide) ?_ | refine ⟨_, rfl, ?_⟩ | refine Mi rfl ?_ | (first | refine ⟨by rw [e2]; omega, by rw [e2]; omega, ?_⟩) | (refine And.intro ?_ ?_))); all_goals (first | ((conv => whnf); exact Wk.frc (keep := [0, 2, 3]) (N := 31) (by (conv => whnf); first | done | exact rfl)) | (first | decide | rfl | assumption | omega | (dsimp only; omega) | (unfold maxLen; omega) | ((try dsimp only [maxLen]); simp only [List.length_append, List.length_cons, List.length_nil, List.length_map, List.length_range, List.length_set, List.length_replicate]; omega) | ((try dsimp only [maxLen]); simp only [IntKind.wrap_i64, IntKind.wrap_u64, List.length_append, List.length_cons, List.length_nil, List.length_map, List.length_range, List.length_set, List.length_replicate]; omega) | ((try dsimp only [maxLen]); simp only [List.length_append, List.length_cons, List.length_nil, List.length_map, List.length_range, List.length_set, List.length_replicate] at *; omega))))); ((conv => whnf); repeat ((first | refine Wo ?_ | refine Lt (by decide) ?_ | refine Lf (by decide) ?_ | refine Cl (by decide) ?_ | refine Cr (by decide) ?_ | refine ⟨_, rfl, ?_⟩ | refine Mi rfl ?_); (conv => whnf))))) | (refine And.intro ?_ ?_))); all_goals (first | ((conv => whnf); exact Wk.frc (keep := [0, 1, 2, 3, 4, 6, 7, 8, 9, 12, 13, 14, 15, 19, 20, 26, 30, 41, 51]) (N := 57) (by (conv => whnf); first | done | exact rfl)) | (first | decide | rfl | assumption | omega | (dsimp only; omega) | (unfold maxLen; omega) | ((try dsimp only [maxLen]); simp only [List.length_append, List.length_cons, List.length_nil, List.length_map, List.length_range, List.length_set, List.length_replicate]; omega) | ((try dsimp only [maxLen]); simp only [IntKind.wrap_i64, IntKind.wrap_u64, List.length_append, List.length_cons, List.length_nil, List.length_map, List.length_range, List.length_set, List.length_replicate]; omega) | ((try dsimp only [maxLen]); simp only [List.length_append, List.length_cons, List.length_nil, List.length_map, List.length_range, List.length_set, List.length_replicate] at *; omega)))))
          ((conv => whnf); repeat ((first | refine Wo ?_ | refine Lt (by decide) ?_ | refine Lf (by decide) ?_ | refine Cl (by decide) ?_ | refine Cr (by decide) ?_ | refine ⟨_, rfl, ?_⟩ | refine Mi rfl ?_); (conv => whnf)))
          refine litE (t0 h0) ?_
          ((conv => whnf); repeat ((first | refine Wo ?_ | refine Lt (by decide) ?_ | refine Lf (by decide) ?_ | refine Cl (by decide) ?_ | refine Cr (by decide) ?_ | refine ⟨_, rfl, ?_⟩ | refine Mi rfl ?_); (conv => whnf)))
          ((conv => whnf); ((repeat ((conv => arg 1; whnf); first | exact Tels.nil | apply Tels.cons | apply Tel.aggs | apply Tel.tups | exact Tel.refl _ | exact Tel.nil1 _ | exact Tel.cap _ _ _ _)); done))
      · have hz : needsZ ins.length ((kd, sl), tx) = 1 ∧ sgB moS tx = true ∧ kd = 4 := by
          unfold needsZ at hn0 ⊢
          dsimp only at hn0 ⊢
          have g1 : ¬ (kd = 1 ∧ 0 ≤ sl ∧ sl < ins.length ∨ kd = 2 ∧ mayB tx = true) := by rintro (⟨h, _⟩ | ⟨h, _⟩); exact h1 h; exact h2 h
          rw [if_neg g1, if_neg (by rintro ⟨h, _⟩; exact h3 h)] at hn0 ⊢
          by_cases hmt : kd = 4 ∧ sgB moS tx = true
          · exact ⟨if_pos hmt, hmt.2, hmt.1⟩
          · rw [if_neg hmt] at hn0
            exact absurd (by decide) hn0
        obtain ⟨hz1, hz2, rfl⟩ := hz
        rw [hz1] at hdp hn1
        obtain ⟨p, a, rfl⟩ : ∃ p a, st = p ++ [a] := by
          rcases snoc_cases st with rfl | h
          · simp at hn1
          · exact h
        have hL : (p ++ [a]).length = p.length + 1 := by simp
        have e1 : IntKind.i64.wrap ((((p ++ [a]).length : Nat) : Int) - 1) = ((p.length : Nat) : Int) := by rw [hL]; exact i64n (by omega) (by omega)
        have x1 : ((p ++ [a]).map sD)[(IntKind.i64.wrap ((((p ++ [a]).length : Nat) : Int) - 1)).toNat * 1]? = some (sD a) := by rw [e1, Int.toNat_natCast, Nat.mul_one]; simp
        have ma := hm a (by simp)
        have hD := smo_runs hz2 ma
        have hsm := smo_may tx ma
        have ho' : oneC ins k ops [] = oneC ins k (ops.drop (i + 1)) (p ++ [smo tx a]) := by
          rw [ho]
          dsimp only
          rw [if_neg (by decide), if_neg (by decide), if_neg (by decide), List.dropLast_concat]
          simp
        generalize smo tx a = r at *
        have u1 : ((((4 : Int), sl), tx).1.1 == 1) = false := rfl
        have u2 : ((((4 : Int), sl), tx).1.1 == 2) = false := rfl
        have u3 : ((((4 : Int), sl), tx).1.1 == 3) = false := rfl
        have u4 : ((((4 : Int), sl), tx).1.1 == 4) = true := rfl
        ((conv => whnf); repeat ((first | refine Wo ?_ | refine Lt (by decide) ?_ | refine Lf (by decide) ?_ | refine Cl (by decide) ?_ | refine Cr (by decide) ?_ | refine ⟨_, rfl, ?_⟩ | refine Mi rfl ?_); (conv => whnf)))
        refine Lt t4 ?_
        ((conv => whnf); repeat ((first | refine Wo ?_ | refine Lt (by decide) ?_ | refine Lf (by decide) ?_ | refine Cl (by decide) ?_ | refine Cr (by decide) ?_ | refine ⟨_, rfl, ?_⟩ | refine Mi rfl ?_); (conv => whnf)))
        refine ⟨by omega, by omega, ?_⟩
        ((conv => whnf); repeat ((first | refine Wo ?_ | refine Lt (by decide) ?_ | refine Lf (by decide) ?_ | refine Cl (by decide) ?_ | refine Cr (by decide) ?_ | refine ⟨_, rfl, ?_⟩ | refine Mi rfl ?_); (conv => whnf)))
        refine fm_ld opC_len hx ?_
        ((conv => whnf); repeat ((first | refine Wo ?_ | refine Lt (by decide) ?_ | refine Lf (by decide) ?_ | refine Cl (by decide) ?_ | refine Cr (by decide) ?_ | refine ⟨_, rfl, ?_⟩ | refine Mi rfl ?_); (conv => whnf)))
        refine litE u1 ?_
        ((conv => whnf); repeat ((first | refine Wo ?_ | refine Lt (by decide) ?_ | refine Lf (by decide) ?_ | refine Cl (by decide) ?_ | refine Cr (by decide) ?_ | refine ⟨_, rfl, ?_⟩ | refine Mi rfl ?_); (conv => whnf)))
        refine litE u2 ?_
        ((conv => whnf); repeat ((first | refine Wo ?_ | refine Lt (by decide) ?_ | refine Lf (by decide) ?_ | refine Cl (by decide) ?_ | refine Cr (by decide) ?_ | refine ⟨_, rfl, ?_⟩ | refine Mi rfl ?_); (conv => whnf)))
        refine litE u3 ?_
        ((conv => whnf); repeat ((first | refine Wo ?_ | refine Lt (by decide) ?_ | refine Lf (by decide) ?_ | refine Cl (by decide) ?_ | refine Cr (by decide) ?_ | refine ⟨_, rfl, ?_⟩ | refine Mi rfl ?_); (conv => whnf)))
        refine litE u4 ?_
        ((conv => whnf); repeat ((first | refine Wo ?_ | refine Lt (by decide) ?_ | refine Lf (by decide) ?_ | refine Cl (by decide) ?_ | refine Cr (by decide) ?_ | refine ⟨_, rfl, ?_⟩ | refine Mi rfl ?_); (conv => whnf)))
        (refine And.intro (by decide +kernel) ?_; apply Exists.intro; apply And.intro; focus ((repeat' ((conv => whnf); first | exact trivial | refine Wo ?_ | refine Lt (by decide) ?_ | refine Lf (by decide) ?_ | refine Cl (by decide) ?_ | refine Cr (by decide) ?_ | refine ⟨_, rfl, ?_⟩ | refine Mi rfl ?_ | (first | (refine Hc.flat hD ?_ rfl ?_; (focus ((repeat ((conv => arg 1; whnf); first | exact Tels.nil | apply Tels.cons | apply Tel.aggs | apply Tel.tups | exact Tel.refl _ | exact Tel.nil1 _ | exact Tel.cap _ _ _ _)); done))) | (((conv => whnf); refine Hc.inl Go.Proofs.YtjldjhlccedkbaaGreatDoor.Am.hT Go.Proofs.YtjldjhlccedkbaaGreatDoor.Am.hm Tryz.func126 rfl (by decide) ⟨[(1, .first 0 (.first 1 (.first 2 (.first 4 (.first 5 (.first 6 (.load 3 [10, 11, 12] (.load 7 [8, 9, 10, 11, 12] (.first 8 (.first 9 (.first 10 (.load 11 [12] (.first 12 .done))))))))))))), (2, .first 0 (.first 1 (.first 2 (.first 3 (.first 5 (.first 6 (.first 7 (.load 4 [11, 12, 13, 14] (.load 8 [9, 10, 11, 12, 13, 14] (.first 9 (.first 10 (.alt 11 (.first 12 (.first 13 (.alt 14 .done .nil))) .nil))))))))))))], [0, 2, 3], 31⟩ ?_; ((conv => whnf); repeat ((first | refine Wo ?_ | refine Lt (by decide) ?_ | refine Lf (by decide) ?_ | refine Cl (by decide) ?_ | refine Cr (by decide) ?_ | refine ⟨_, rfl, ?_⟩ | refine Mi rfl ?_); (conv => whnf)))); (refine And.intro (by decide +kernel) ?_; apply Exists.intro; apply And.intro; focus ((repeat' ((conv => whnf); first | exact trivial | refine Wo ?_ | refine Lt (by decide) ?_ | refine Lf (by decide) ?_ | refine Cl (by decide) ?_ | refine Cr (by decide) ?_ | refine ⟨_, rfl, ?_⟩ | refine Mi rfl ?_ | (first | refine ⟨_, x1, ?_⟩ | refine ⟨by rw [e1]; omega, by rw [e1]; omega, ?_⟩) | (refine And.intro ?_ ?_))); all_goals (first | ((conv => whnf); exact Wk.frc (keep := [0, 2, 3]) (N := 31) (by (conv => whnf); first | done | exact rfl)) | (first | decide | rfl | assumption | omega | (dsimp only; omega) | (unfold maxLen; omega) | ((try dsimp only [maxLen]); simp only [List.length_append, List.length_cons, List.length_nil, List.length_map, List.length_range, List.length_set, List.length_replicate]; omega) | ((try dsimp only [maxLen]); simp only [IntKind.wrap_i64, IntKind.wrap_u64, List.length_append, List.length_cons, List.length_nil, List.length_map, List.length_range, List.length_set, List.length_replicate]; omega) | ((try dsimp only [maxLen]); simp only [List.length_append, List.length_cons, List.length_nil, List.length_map, List.length_range, List.length_set, List.length_replicate] at *; omega))))); ((conv => whnf); repeat ((first | refine Wo ?_ | refine Lt (by decide) ?_ | refine Lf (by decide) ?_ | refine Cl (by decide) ?_ | refine Cr (by decide) ?_ | refine ⟨_, rfl, ?_⟩ | refine Mi rfl ?_); (conv => whnf))); (refine And.intro (by decide +kernel) ?_; apply Exists.intro; apply And.intro; focus ((repeat' ((conv => whnf); first | exact trivial | refine Wo ?_ | refine Lt (by decide) ?_ | refine Lf (by decide) ?_ | refine Cl (by decide) ?_ | refine Cr (by decide) ?_ | refine ⟨_, rfl, ?_⟩ | refine Mi rfl ?_ | (first | refine ⟨by rw [e1]; omega, by rw [e1]; omega, ?_⟩) | (refine And.intro ?_ ?_))); all_goals (first | ((conv => whnf); exact Wk.frc (keep := [0, 2, 3]) (N := 31) (by (conv => whnf); first | done | exact rfl)) | (first | decide | rfl | assumption | omega | (dsimp only; omega) | (unfold maxLen; omega) | ((try dsimp only [maxLen]); simp only [List.length_append, List.length_cons, List.length_nil, List.length_map, List.length_range, List.length_set, List.length_replicate]; omega) | ((try dsimp only [maxLen]); simp only [IntKind.wrap_i64, IntKind.wrap_u64, List.length_append, List.length_cons, List.length_nil, List.length_map, List.length_range, List.length_set, List.length_replicate]; omega) | ((try dsimp only [maxLen]); simp only [List.length_append, List.length_cons, List.length_nil, List.length_map, List.length_range, List.length_set, List.length_replicate] at *; omega))))); ((conv => whnf); repeat ((first | refine Wo ?_ | refine Lt (by decide) ?_ | refine Lf (by decide) ?_ | refine Cl (by decide) ?_ | refine Cr (by decide) ?_ | refine ⟨_, rfl, ?_⟩ | refine Mi rfl ?_); (conv => whnf))))) | (refine And.intro ?_ ?_))); all_goals (first | ((conv => whnf); exact Wk.frc (keep := [0, 1, 2, 3, 4, 6, 7, 8, 9, 12, 13, 14, 15, 19, 20, 26, 30, 41, 51]) (N := 57) (by (conv => whnf); first | done | exact rfl)) | (first | decide | rfl | assumption | omega | (dsimp only; omega) | (unfold maxLen; omega) | ((try dsimp only [maxLen]); simp only [List.length_append, List.length_cons, List.length_nil, List.length_map, List.length_range, List.length_set, List.length_replicate]; omega) | ((try dsimp only [maxLen]); simp only [IntKind.wrap_i64, IntKind.wrap_u64, List.length_append, List.length_cons, List.length_nil, List.length_map, List.length_range, List.length_set, List.length_replicate]; omega) | ((try dsimp only [maxLen]); simp only [List.length_append, List.length_cons, List.length_nil, List.length_map, List.length_range, List.length_set, List.length_replicate] at *; omega)))))
        ((conv => whnf); repeat ((first | refine Wo ?_ | refine Lt (by decide) ?_ | refine Lf (by decide) ?_ | refine Cl (by decide) ?_ | refine Cr (by decide) ?_ | refine ⟨_, rfl, ?_⟩ | refine Mi rfl ?_); (conv => whnf)))
        refine litE (show (!(((r, (0 : Int)) : ByteArray × Int).2 == 0)) = false from rfl) ?_
        ((conv => whnf); repeat ((first | refine Wo ?_ | refine Lt (by decide) ?_ | refine Lf (by decide) ?_ | refine Cl (by decide) ?_ | refine Cr (by decide) ?_ | refine ⟨_, rfl, ?_⟩ | refine Mi rfl ?_); (conv => whnf)))
        ((conv => whnf); refine Hc.inl Go.Proofs.YtjldjhlccedkbaaGreatDoor.Am.hT Go.Proofs.YtjldjhlccedkbaaGreatDoor.Am.hm Tryz.func127 rfl (by decide) ⟨[], [0, 1], 14⟩ ?_; ((conv => whnf); repeat ((first | refine Wo ?_ | refine Lt (by decide) ?_ | refine Lf (by decide) ?_ | refine Cl (by decide) ?_ | refine Cr (by decide) ?_ | refine ⟨_, rfl, ?_⟩ | refine Mi rfl ?_); (conv => whnf))))
        refine ⟨by rw [e1]; unfold maxLen; omega, by rw [e1]; dsimp only; omega, ?_⟩
        ((conv => whnf); repeat ((first | refine Wo ?_ | refine Lt (by decide) ?_ | refine Lf (by decide) ?_ | refine Cl (by decide) ?_ | refine Cr (by decide) ?_ | refine ⟨_, rfl, ?_⟩ | refine Mi rfl ?_); (conv => whnf)))
        refine ih (i + 1, p ++ [r]) _ ⟨by dsimp only; omega, by dsimp only; omega, by dsimp only; rw [List.length_append, List.length_singleton]; omega, fun c hc => ?_, by dsimp only; rw [List.length_append, List.length_singleton]; rw [hL] at hdp; exact (congrArg (deepC _ _) (by omega)).trans hdp, ho'⟩ ?_
        · rcases List.mem_append.1 hc with h | h
          · exact hm c (by simp [h])
          · rw [List.mem_singleton.1 h]; exact hsm
        dsimp only
        unfold onQ
        (refine Wk.pin [0, 1, 6] _ _ ?_ ?_ rfl rfl (by decide) rfl rfl <;> (repeat' first | exact trivial | rfl | (refine And.intro ?_ ?_)))
        · exact inE (i64n (by simp) (by omega))
        · exact arE (by rw [e1]; simp) (by rw [e1]; simp)
    · have t4 : decide ((i : Int) < (ops.length : Int)) = false := by simpa using hlt
      rw [List.drop_eq_nil_of_le (by omega), deepC] at hdp
      rw [List.drop_eq_nil_of_le (by omega), oneC] at ho
      have hL : st.length = 1 := by have := Option.some.inj hdp; omega
      obtain ⟨a, rfl⟩ := List.length_eq_one_iff.1 hL
      have e1 : IntKind.i64.wrap (((([a] : List ByteArray).length : Nat) : Int) - 1) = ((0 : Nat) : Int) := i64n (by simp) (by omega)
      have x1 : (([a] : List ByteArray).map sD)[(IntKind.i64.wrap (((([a] : List ByteArray).length : Nat) : Int) - 1)).toNat * 1]? = some (sD a) := by rw [e1]; rfl
      rw [ho]
      ((conv => whnf); repeat ((first | refine Wo ?_ | refine Lt (by decide) ?_ | refine Lf (by decide) ?_ | refine Cl (by decide) ?_ | refine Cr (by decide) ?_ | refine ⟨_, rfl, ?_⟩ | refine Mi rfl ?_); (conv => whnf)))
      refine Lf t4 ?_
      ((conv => whnf); repeat ((first | refine Wo ?_ | refine Lt (by decide) ?_ | refine Lf (by decide) ?_ | refine Cl (by decide) ?_ | refine Cr (by decide) ?_ | refine ⟨_, rfl, ?_⟩ | refine Mi rfl ?_); (conv => whnf)))
      (((conv => whnf); refine Hc.inl Go.Proofs.YtjldjhlccedkbaaGreatDoor.Am.hT Go.Proofs.YtjldjhlccedkbaaGreatDoor.Am.hm Tryz.func126 rfl (by decide) ⟨[(1, .first 0 (.first 1 (.first 2 (.first 4 (.first 5 (.first 6 (.load 3 [10, 11, 12] (.load 7 [8, 9, 10, 11, 12] (.first 8 (.first 9 (.first 10 (.load 11 [12] (.first 12 .done))))))))))))), (2, .first 0 (.first 1 (.first 2 (.first 3 (.first 5 (.first 6 (.first 7 (.load 4 [11, 12, 13, 14] (.load 8 [9, 10, 11, 12, 13, 14] (.first 9 (.first 10 (.alt 11 (.first 12 (.first 13 (.alt 14 .done .nil))) .nil))))))))))))], [0, 2, 3], 31⟩ ?_; ((conv => whnf); repeat ((first | refine Wo ?_ | refine Lt (by decide) ?_ | refine Lf (by decide) ?_ | refine Cl (by decide) ?_ | refine Cr (by decide) ?_ | refine ⟨_, rfl, ?_⟩ | refine Mi rfl ?_); (conv => whnf)))); (refine And.intro (by decide +kernel) ?_; apply Exists.intro; apply And.intro; focus ((repeat' ((conv => whnf); first | exact trivial | refine Wo ?_ | refine Lt (by decide) ?_ | refine Lf (by decide) ?_ | refine Cl (by decide) ?_ | refine Cr (by decide) ?_ | refine ⟨_, rfl, ?_⟩ | refine Mi rfl ?_ | (first | refine ⟨_, x1, ?_⟩ | refine ⟨by rw [e1]; omega, by rw [e1]; omega, ?_⟩) | (refine And.intro ?_ ?_))); all_goals (first | ((conv => whnf); exact Wk.frc (keep := [0, 2, 3]) (N := 31) (by (conv => whnf); first | done | exact rfl)) | (first | decide | rfl | assumption | omega | (dsimp only; omega) | (unfold maxLen; omega) | ((try dsimp only [maxLen]); simp only [List.length_append, List.length_cons, List.length_nil, List.length_map, List.length_range, List.length_set, List.length_replicate]; omega) | ((try dsimp only [maxLen]); simp only [IntKind.wrap_i64, IntKind.wrap_u64, List.length_append, List.length_cons, List.length_nil, List.length_map, List.length_range, List.length_set, List.length_replicate]; omega) | ((try dsimp only [maxLen]); simp only [List.length_append, List.length_cons, List.length_nil, List.length_map, List.length_range, List.length_set, List.length_replicate] at *; omega))))); ((conv => whnf); repeat ((first | refine Wo ?_ | refine Lt (by decide) ?_ | refine Lf (by decide) ?_ | refine Cl (by decide) ?_ | refine Cr (by decide) ?_ | refine ⟨_, rfl, ?_⟩ | refine Mi rfl ?_); (conv => whnf))); (refine And.intro (by decide +kernel) ?_; apply Exists.intro; apply And.intro; focus ((repeat' ((conv => whnf); first | exact trivial | refine Wo ?_ | refine Lt (by decide) ?_ | refine Lf (by decide) ?_ | refine Cl (by decide) ?_ | refine Cr (by decide) ?_ | refine ⟨_, rfl, ?_⟩ | refine Mi rfl ?_ | (first | refine ⟨by rw [e1]; omega, by rw [e1]; omega, ?_⟩) | (refine And.intro ?_ ?_))); all_goals (first | ((conv => whnf); exact Wk.frc (keep := [0, 2, 3]) (N := 31) (by (conv => whnf); first | done | exact rfl)) | (first | decide | rfl | assumption | omega | (dsimp only; omega) | (unfold maxLen; omega) | ((try dsimp only [maxLen]); simp only [List.length_append, List.length_cons, List.length_nil, List.length_map, List.length_range, List.length_set, List.length_replicate]; omega) | ((try dsimp only [maxLen]); simp only [IntKind.wrap_i64, IntKind.wrap_u64, List.length_append, List.length_cons, List.length_nil, List.length_map, List.length_range, List.length_set, List.length_replicate]; omega) | ((try dsimp only [maxLen]); simp only [List.length_append, List.length_cons, List.length_nil, List.length_map, List.length_range, List.length_set, List.length_replicate] at *; omega))))); ((conv => whnf); repeat ((first | refine Wo ?_ | refine Lt (by decide) ?_ | refine Lf (by decide) ?_ | refine Cl (by decide) ?_ | refine Cr (by decide) ?_ | refine ⟨_, rfl, ?_⟩ | refine Mi rfl ?_); (conv => whnf))))
      ((conv => whnf); ((repeat ((conv => arg 1; whnf); first | exact Tels.nil | apply Tels.cons | apply Tel.aggs | apply Tel.tups | exact Tel.refl _ | exact Tel.nil1 _ | exact Tel.cap _ _ _ _)); done))
  · refine (Wk.virtB 1 0 9 1 131 _ rfl rfl).trans ?_
    unfold onQ
    (refine Wk.to _ _ ?_ ?_ <;> (repeat' first | exact trivial | rfl | (refine And.intro ?_ ?_)))
end Go.Proofs.YtjldjhlccedkbaaGreatDoor.Am
end
section
/- Frames: whether two are the same; the beginning. -/
namespace Go.Proofs.YtjldjhlccedkbaaGreatDoor.Am
open Go Go.RowKit Go.Proofs.YtjldjhlccedkbaaGreatDoor.Sh
open Go.Proofs.YtjldjhlccedkbaaGreatDoor.Nm (numS)
set_option linter.unusedVariables false
set_option linter.unusedSimpArgs false
set_option maxRecDepth 100000
set_option maxHeartbeats 8000000
/-! ### the beginning -/
theorem start1_runs (v : ValL) (h1 : v.1.length ≤ 100000000) (h2 : v.2.length ≤ 100000000) : Runs Tryz.prog 68 [vD2 v] (bD (!good v.1 v.2)) := by
  have h := vmay_runs v.1 v.2 (by omega) (by omega)
  cases hg : good v.1 v.2 with
  | true =>
    rw [hg] at h
    refine Runs.wp Go.Proofs.YtjldjhlccedkbaaGreatDoor.Am.hT Go.Proofs.YtjldjhlccedkbaaGreatDoor.Am.hm Tryz.func68 rfl (by decide) ⟨[], [0, 1, 2], 6⟩ ?_; ((conv => whnf); repeat ((first | refine Wo ?_ | refine Lt (by decide) ?_ | refine Lf (by decide) ?_ | refine Cl (by decide) ?_ | refine Cr (by decide) ?_ | refine ⟨_, rfl, ?_⟩ | refine Mi rfl ?_); (conv => whnf)))
    ((conv => whnf); (refine Hc.flat h ?_ rfl ?_; (focus ((repeat ((conv => arg 1; whnf); first | exact Tels.nil | apply Tels.cons | apply Tel.aggs | apply Tel.tups | exact Tel.refl _ | exact Tel.nil1 _ | exact Tel.cap _ _ _ _)); done))); ((conv => whnf); repeat ((first | refine Wo ?_ | refine Lt (by decide) ?_ | refine Lf (by decide) ?_ | refine Cl (by decide) ?_ | refine Cr (by decide) ?_ | refine ⟨_, rfl, ?_⟩ | refine Mi rfl ?_); (conv => whnf))))
    ((conv => whnf); ((repeat ((conv => arg 1; whnf); first | exact Tels.nil | apply Tels.cons | apply Tel.aggs | apply Tel.tups | exact Tel.refl _ | exact Tel.nil1 _ | exact Tel.cap _ _ _ _)); done))
  | false =>
    rw [hg] at h
    refine Runs.wp Go.Proofs.YtjldjhlccedkbaaGreatDoor.Am.hT Go.Proofs.YtjldjhlccedkbaaGreatDoor.Am.hm Tryz.func68 rfl (by decide) ⟨[], [0, 1, 2], 6⟩ ?_; ((conv => whnf); repeat ((first | refine Wo ?_ | refine Lt (by decide) ?_ | refine Lf (by decide) ?_ | refine Cl (by decide) ?_ | refine Cr (by decide) ?_ | refine ⟨_, rfl, ?_⟩ | refine Mi rfl ?_); (conv => whnf)))
    ((conv => whnf); (refine Hc.flat h ?_ rfl ?_; (focus ((repeat ((conv => arg 1; whnf); first | exact Tels.nil | apply Tels.cons | apply Tel.aggs | apply Tel.tups | exact Tel.refl _ | exact Tel.nil1 _ | exact Tel.cap _ _ _ _)); done))); ((conv => whnf); repeat ((first | refine Wo ?_ | refine Lt (by decide) ?_ | refine Lf (by decide) ?_ | refine Cl (by decide) ?_ | refine Cr (by decide) ?_ | refine ⟨_, rfl, ?_⟩ | refine Mi rfl ?_); (conv => whnf))))
    ((conv => whnf); ((repeat ((conv => arg 1; whnf); first | exact Tels.nil | apply Tels.cons | apply Tel.aggs | apply Tel.tups | exact Tel.refl _ | exact Tel.nil1 _ | exact Tel.cap _ _ _ _)); done))
def scanS : List ValL → Int → Int → Option (Int × Int)
  | [], n, bad => some (n, bad)
  | v :: l, n, bad => if 1 < v.1.length then none else if v.1.length = 1 then (if 0 ≤ n ∧ n ≠ v.1.headD 0 then scanS l n 4 else scanS l (v.1.headD 0) bad) else scanS l n bad
def frZ : FrL := ⟨[], ByteArray.empty, [], 0, 0, [], ByteArray.empty⟩
def startF (ops : List OpL) (fold : ByteArray) (ins : List ValL) : FrL × Int :=
  if mayC ops fold ins.length = true ∧ (ins.any fun v => !good v.1 v.2) = false then
    match scanS ins (-1) 0 with
    | none => (frZ, 3)
    | some (n, bad) => if bad ≠ 0 then (frZ, bad) else if n = 0 then (frZ, 5) else (⟨ops, fold, ins, if n < 1 then 1 else n, 0, [], ByteArray.empty⟩, 0)
  else (frZ, 1)
theorem start_no {ops : List OpL} {fold : ByteArray} {ins : List ValL} (h : Runs Tryz.prog 33 [cD ops fold, iD ins.length] (bD false)) : Runs Tryz.prog 28 [cD ops fold, rV ins] (.tup [frD frZ, iD 1]) := by
  refine Runs.wp Go.Proofs.YtjldjhlccedkbaaGreatDoor.Am.hT Go.Proofs.YtjldjhlccedkbaaGreatDoor.Am.hm Tryz.func28 rfl (by decide) ⟨[(18, .first 1 (.first 3 (.alt 0 (.alt 2 (.alt 4 (.first 5 (.alt 6 (.first 7 .done) .nil)) .nil) (.alt 4 (.alt 2 (.first 5 (.alt 6 (.first 7 .done) .nil)) .nil) .nil)) (.alt 2 (.alt 0 (.alt 4 (.first 5 (.alt 6 (.first 7 .done) .nil)) .nil) (.alt 4 (.load 0 [5, 6, 7] (.first 5 (.alt 6 (.first 7 .done) .nil))) .nil)) (.alt 4 (.alt 0 (.alt 2 (.first 5 (.alt 6 (.first 7 .done) .nil)) .nil) (.alt 2 (.load 0 [5, 6, 7] (.first 5 (.alt 6 (.first 7 .done) .nil))) .nil)) .nil)))))], [0, 1, 2, 4, 5, 6, 7, 9, 18, 20, 21, 22, 23, 26, 32, 49, 59, 64], 74⟩ ?_; ((conv => whnf); repeat ((first | refine Wo ?_ | refine Lt (by decide) ?_ | refine Lf (by decide) ?_ | refine Cl (by decide) ?_ | refine Cr (by decide) ?_ | refine ⟨_, rfl, ?_⟩ | refine Mi rfl ?_); (conv => whnf)))
  ((conv => whnf); (refine Hc.flat h ?_ rfl ?_; (focus ((repeat ((conv => arg 1; whnf); first | exact Tels.nil | apply Tels.cons | apply Tel.aggs | apply Tel.tups | exact Tel.refl _ | exact Tel.nil1 _ | exact Tel.cap _ _ _ _)); done))); ((conv => whnf); repeat ((first | refine Wo ?_ | refine Lt (by decide) ?_ | refine Lf (by decide) ?_ | refine Cl (by decide) ?_ | refine Cr (by decide) ?_ | refine ⟨_, rfl, ?_⟩ | refine Mi rfl ?_); (conv => whnf))))
  ((conv => whnf); ((repeat ((conv => arg 1; whnf); first | exact Tels.nil | apply Tels.cons | apply Tel.aggs | apply Tel.tups | exact Tel.refl _ | exact Tel.nil1 _ | exact Tel.cap _ _ _ _)); done))
theorem start_no2 {ops : List OpL} {fold : ByteArray} {ins : List ValL} (h : Runs Tryz.prog 33 [cD ops fold, iD ins.length] (bD true)) (h2 : Runs Tryz.prog 67 [rV ins, .fn 68 []] (bD true)) : Runs Tryz.prog 28 [cD ops fold, rV ins] (.tup [frD frZ, iD 1]) := by
  refine Runs.wp Go.Proofs.YtjldjhlccedkbaaGreatDoor.Am.hT Go.Proofs.YtjldjhlccedkbaaGreatDoor.Am.hm Tryz.func28 rfl (by decide) ⟨[(18, .first 1 (.first 3 (.alt 0 (.alt 2 (.alt 4 (.first 5 (.alt 6 (.first 7 .done) .nil)) .nil) (.alt 4 (.alt 2 (.first 5 (.alt 6 (.first 7 .done) .nil)) .nil) .nil)) (.alt 2 (.alt 0 (.alt 4 (.first 5 (.alt 6 (.first 7 .done) .nil)) .nil) (.alt 4 (.load 0 [5, 6, 7] (.first 5 (.alt 6 (.first 7 .done) .nil))) .nil)) (.alt 4 (.alt 0 (.alt 2 (.first 5 (.alt 6 (.first 7 .done) .nil)) .nil) (.alt 2 (.load 0 [5, 6, 7] (.first 5 (.alt 6 (.first 7 .done) .nil))) .nil)) .nil)))))], [0, 1, 2, 4, 5, 6, 7, 9, 18, 20, 21, 22, 23, 26, 32, 49, 59, 64], 74⟩ ?_; ((conv => whnf); repeat ((first | refine Wo ?_ | refine Lt (by decide) ?_ | refine Lf (by decide) ?_ | refine Cl (by decide) ?_ | refine Cr (by decide) ?_ | refine ⟨_, rfl, ?_⟩ | refine Mi rfl ?_); (conv => whnf)))
  ((conv => whnf); (refine Hc.flat h ?_ rfl ?_; (focus ((repeat ((conv => arg 1; whnf); first | exact Tels.nil | apply Tels.cons | apply Tel.aggs | apply Tel.tups | exact Tel.refl _ | exact Tel.nil1 _ | exact Tel.cap _ _ _ _)); done))); ((conv => whnf); repeat ((first | refine Wo ?_ | refine Lt (by decide) ?_ | refine Lf (by decide) ?_ | refine Cl (by decide) ?_ | refine Cr (by decide) ?_ | refine ⟨_, rfl, ?_⟩ | refine Mi rfl ?_); (conv => whnf))))
  ((conv => whnf); (refine Hc.flat h2 ?_ rfl ?_; (focus ((repeat ((conv => arg 1; whnf); first | exact Tels.nil | apply Tels.cons | apply Tel.aggs | apply Tel.tups | exact Tel.refl _ | exact Tel.nil1 _ | exact Tel.cap _ _ _ _)); done))); ((conv => whnf); repeat ((first | refine Wo ?_ | refine Lt (by decide) ?_ | refine Lf (by decide) ?_ | refine Cl (by decide) ?_ | refine Cr (by decide) ?_ | refine ⟨_, rfl, ?_⟩ | refine Mi rfl ?_); (conv => whnf))))
  ((conv => whnf); ((repeat ((conv => arg 1; whnf); first | exact Tels.nil | apply Tels.cons | apply Tel.aggs | apply Tel.tups | exact Tel.refl _ | exact Tel.nil1 _ | exact Tel.cap _ _ _ _)); done))
theorem start_go {ops : List OpL} {fold : ByteArray} {ins : List ValL} {r : FrL × Int} (hi : ins.length ≤ 100000000) (h : Runs Tryz.prog 33 [cD ops fold, iD ins.length] (bD true)) (h2 : Runs Tryz.prog 67 [rV ins, .fn 68 []] (bD false))
    (hr : r = match scanS ins (-1) 0 with
    | none => (frZ, 3)
    | some (n, bad) => if bad ≠ 0 then (frZ, bad) else if n = 0 then (frZ, 5) else (⟨ops, fold, ins, if n < 1 then 1 else n, 0, [], ByteArray.empty⟩, 0)) : Runs Tryz.prog 28 [cD ops fold, rV ins] (.tup [frD r.1, iD r.2]) := by
  have hc := cloneV_runs ins hi
  refine Runs.wp Go.Proofs.YtjldjhlccedkbaaGreatDoor.Am.hT Go.Proofs.YtjldjhlccedkbaaGreatDoor.Am.hm Tryz.func28 rfl (by decide) ⟨[(18, .first 1 (.first 3 (.alt 0 (.alt 2 (.alt 4 (.first 5 (.alt 6 (.first 7 .done) .nil)) .nil) (.alt 4 (.alt 2 (.first 5 (.alt 6 (.first 7 .done) .nil)) .nil) .nil)) (.alt 2 (.alt 0 (.alt 4 (.first 5 (.alt 6 (.first 7 .done) .nil)) .nil) (.alt 4 (.load 0 [5, 6, 7] (.first 5 (.alt 6 (.first 7 .done) .nil))) .nil)) (.alt 4 (.alt 0 (.alt 2 (.first 5 (.alt 6 (.first 7 .done) .nil)) .nil) (.alt 2 (.load 0 [5, 6, 7] (.first 5 (.alt 6 (.first 7 .done) .nil))) .nil)) .nil)))))], [0, 1, 2, 4, 5, 6, 7, 9, 18, 20, 21, 22, 23, 26, 32, 49, 59, 64], 74⟩ ?_; ((conv => whnf); repeat ((first | refine Wo ?_ | refine Lt (by decide) ?_ | refine Lf (by decide) ?_ | refine Cl (by decide) ?_ | refine Cr (by decide) ?_ | refine ⟨_, rfl, ?_⟩ | refine Mi rfl ?_); (conv => whnf)))
  ((conv => whnf); (refine Hc.flat h ?_ rfl ?_; (focus ((repeat ((conv => arg 1; whnf); first | exact Tels.nil | apply Tels.cons | apply Tel.aggs | apply Tel.tups | exact Tel.refl _ | exact Tel.nil1 _ | exact Tel.cap _ _ _ _)); done))); ((conv => whnf); repeat ((first | refine Wo ?_ | refine Lt (by decide) ?_ | refine Lf (by decide) ?_ | refine Cl (by decide) ?_ | refine Cr (by decide) ?_ | refine ⟨_, rfl, ?_⟩ | refine Mi rfl ?_); (conv => whnf))))
  ((conv => whnf); (refine Hc.flat h2 ?_ rfl ?_; (focus ((repeat ((conv => arg 1; whnf); first | exact Tels.nil | apply Tels.cons | apply Tel.aggs | apply Tel.tups | exact Tel.refl _ | exact Tel.nil1 _ | exact Tel.cap _ _ _ _)); done))); ((conv => whnf); repeat ((first | refine Wo ?_ | refine Lt (by decide) ?_ | refine Lf (by decide) ?_ | refine Cl (by decide) ?_ | refine Cr (by decide) ?_ | refine ⟨_, rfl, ?_⟩ | refine Mi rfl ?_); (conv => whnf))))
  refine loop_ind (fun k (x : Nat × Int × Int) => x.1 + k = ins.length + 1 ∧ x.1 ≤ ins.length ∧ scanS ins (-1) 0 = scanS (ins.drop x.1) x.2.1 x.2.2) (fun x => { t := pin [(1, .d (rV ins)), (2, .pt 0 0), (4, .pt 1 0), (5, .d (iD 0)), (6, .d (iD x.2.1)), (7, .d (iD x.2.2)), (20, .d (rV ins)), (21, .d (iD ins.length)), (22, .d (iD x.1))], N := 74, h := hpin [some (.st 50 [.d (rO ops), .d (sD fold)]), some (.st 52 [.imm (.slice none 0 0), .imm (.string ByteArray.empty), .imm (.slice none 0 0), .imm (.int .i64 0), .imm (.int .i64 0), .imm (.slice none 0 0), .imm (.string ByteArray.empty)])], n := 2, lo := 0 }) (fun i h => by omega) ?_ (ins.length + 1) (0, -1, 0) ⟨by simp, by simp, rfl⟩ _ ?_
  · rintro k ⟨i, n, bad⟩ R ih ⟨hk, hlt', he⟩
    dsimp only at *
    by_cases hlt : i < ins.length
    · have t1 : decide ((i : Int) < (ins.length : Int)) = true := by simpa using hlt
      have hx : ins[i]? = some ins[i] := List.getElem?_eq_getElem hlt
      rw [List.drop_eq_getElem_cons hlt, scanS] at he
      generalize ins[i] = v at *
      obtain ⟨s, e⟩ := v
      dsimp only at he
      by_cases h1 : 1 < s.length
      · have t2 : decide (((s.length : Nat) : Int) > 1) = true := by rw [decide_eq_true_iff]; omega
        rw [if_pos h1] at he
        rw [he] at hr
        dsimp only at hr
        subst hr
        ((conv => whnf); repeat ((first | refine Wo ?_ | refine Lt (by decide) ?_ | refine Lf (by decide) ?_ | refine Cl (by decide) ?_ | refine Cr (by decide) ?_ | refine ⟨_, rfl, ?_⟩ | refine Mi rfl ?_); (conv => whnf)))
        refine Lt t1 ?_
        ((conv => whnf); repeat ((first | refine Wo ?_ | refine Lt (by decide) ?_ | refine Lf (by decide) ?_ | refine Cl (by decide) ?_ | refine Cr (by decide) ?_ | refine ⟨_, rfl, ?_⟩ | refine Mi rfl ?_); (conv => whnf)))
        refine ⟨by omega, by omega, ?_⟩
        ((conv => whnf); repeat ((first | refine Wo ?_ | refine Lt (by decide) ?_ | refine Lf (by decide) ?_ | refine Cl (by decide) ?_ | refine Cr (by decide) ?_ | refine ⟨_, rfl, ?_⟩ | refine Mi rfl ?_); (conv => whnf)))
        refine fm_ld valC_len hx ?_
        ((conv => whnf); repeat ((first | refine Wo ?_ | refine Lt (by decide) ?_ | refine Lf (by decide) ?_ | refine Cl (by decide) ?_ | refine Cr (by decide) ?_ | refine ⟨_, rfl, ?_⟩ | refine Mi rfl ?_); (conv => whnf)))
        refine litE t2 ?_
        ((conv => whnf); repeat ((first | refine Wo ?_ | refine Lt (by decide) ?_ | refine Lf (by decide) ?_ | refine Cl (by decide) ?_ | refine Cr (by decide) ?_ | refine ⟨_, rfl, ?_⟩ | refine Mi rfl ?_); (conv => whnf)))
        ((conv => whnf); ((repeat ((conv => arg 1; whnf); first | exact Tels.nil | apply Tels.cons | apply Tel.aggs | apply Tel.tups | exact Tel.refl _ | exact Tel.nil1 _ | exact Tel.cap _ _ _ _)); done))
      · have t2 : decide (((s.length : Nat) : Int) > 1) = false := by rw [decide_eq_false_iff_not]; omega
        rw [if_neg h1] at he
        cases s with
        | nil =>
          have t7 : ((((([], e) : ValL).1.length : Nat) : Int) == 1) = false := rfl
          rw [if_neg (by simp)] at he
          ((conv => whnf); repeat ((first | refine Wo ?_ | refine Lt (by decide) ?_ | refine Lf (by decide) ?_ | refine Cl (by decide) ?_ | refine Cr (by decide) ?_ | refine ⟨_, rfl, ?_⟩ | refine Mi rfl ?_); (conv => whnf)))
          refine Lt t1 ?_
          ((conv => whnf); repeat ((first | refine Wo ?_ | refine Lt (by decide) ?_ | refine Lf (by decide) ?_ | refine Cl (by decide) ?_ | refine Cr (by decide) ?_ | refine ⟨_, rfl, ?_⟩ | refine Mi rfl ?_); (conv => whnf)))
          refine ⟨by omega, by omega, ?_⟩
          ((conv => whnf); repeat ((first | refine Wo ?_ | refine Lt (by decide) ?_ | refine Lf (by decide) ?_ | refine Cl (by decide) ?_ | refine Cr (by decide) ?_ | refine ⟨_, rfl, ?_⟩ | refine Mi rfl ?_); (conv => whnf)))
          refine fm_ld valC_len hx ?_
          ((conv => whnf); repeat ((first | refine Wo ?_ | refine Lt (by decide) ?_ | refine Lf (by decide) ?_ | refine Cl (by decide) ?_ | refine Cr (by decide) ?_ | refine ⟨_, rfl, ?_⟩ | refine Mi rfl ?_); (conv => whnf)))
          refine litE t2 ?_
          ((conv => whnf); repeat ((first | refine Wo ?_ | refine Lt (by decide) ?_ | refine Lf (by decide) ?_ | refine Cl (by decide) ?_ | refine Cr (by decide) ?_ | refine ⟨_, rfl, ?_⟩ | refine Mi rfl ?_); (conv => whnf)))
          refine litE t7 ?_
          ((conv => whnf); repeat ((first | refine Wo ?_ | refine Lt (by decide) ?_ | refine Lf (by decide) ?_ | refine Cl (by decide) ?_ | refine Cr (by decide) ?_ | refine ⟨_, rfl, ?_⟩ | refine Mi rfl ?_); (conv => whnf)))
          refine litE t7 ?_
          ((conv => whnf); repeat ((first | refine Wo ?_ | refine Lt (by decide) ?_ | refine Lf (by decide) ?_ | refine Cl (by decide) ?_ | refine Cr (by decide) ?_ | refine ⟨_, rfl, ?_⟩ | refine Mi rfl ?_); (conv => whnf)))
          refine ih (i + 1, n, bad) _ ⟨by dsimp only; omega, by dsimp only; omega, he⟩ ?_
          (refine Wk.pin [0, 1] _ _ ?_ ?_ rfl rfl (by decide) rfl rfl <;> (repeat' first | exact trivial | rfl | (refine And.intro ?_ ?_)))
          exact inE (i64n (by simp) (by omega))
        | cons a s =>
          cases s with
          | cons b s => exact absurd (by simp) h1
          | nil =>
            have t7 : (((((([a] : List Int), e) : ValL).1.length : Nat) : Int) == 1) = true := rfl
            have hix : (List.map iD (([a], e) : ValL).1)[(0 : Int).toNat * 1]? = some (iD a) := rfl
            have hlen : (0 : Int) ≤ 0 ∧ (0 : Int) < (((([a] : List Int), e) : ValL).1.length : Nat) := ⟨by decide, by show (0 : Int) < 1; decide⟩
            rw [if_pos (show ([a] : List Int).length = 1 from rfl)] at he
            replace he : scanS ins (-1) 0 = if 0 ≤ n ∧ n ≠ a then scanS (ins.drop (i + 1)) n 4 else scanS (ins.drop (i + 1)) a bad := he
            by_cases hn : 0 ≤ n
            · have t3 : decide (n ≥ 0) = true := decide_eq_true hn
              by_cases hna : n = a
              · have t4 : (!(n == a)) = false := by simp [hna]
                rw [if_neg (by simp [hna])] at he
                ((conv => whnf); repeat ((first | refine Wo ?_ | refine Lt (by decide) ?_ | refine Lf (by decide) ?_ | refine Cl (by decide) ?_ | refine Cr (by decide) ?_ | refine ⟨_, rfl, ?_⟩ | refine Mi rfl ?_); (conv => whnf)))
                refine Lt t1 ?_
                ((conv => whnf); repeat ((first | refine Wo ?_ | refine Lt (by decide) ?_ | refine Lf (by decide) ?_ | refine Cl (by decide) ?_ | refine Cr (by decide) ?_ | refine ⟨_, rfl, ?_⟩ | refine Mi rfl ?_); (conv => whnf)))
                refine ⟨by omega, by omega, ?_⟩
                ((conv => whnf); repeat ((first | refine Wo ?_ | refine Lt (by decide) ?_ | refine Lf (by decide) ?_ | refine Cl (by decide) ?_ | refine Cr (by decide) ?_ | refine ⟨_, rfl, ?_⟩ | refine Mi rfl ?_); (conv => whnf)))
                refine fm_ld valC_len hx ?_
                ((conv => whnf); repeat ((first | refine Wo ?_ | refine Lt (by decide) ?_ | refine Lf (by decide) ?_ | refine Cl (by decide) ?_ | refine Cr (by decide) ?_ | refine ⟨_, rfl, ?_⟩ | refine Mi rfl ?_); (conv => whnf)))
                refine litE t2 ?_
                ((conv => whnf); repeat ((first | refine Wo ?_ | refine Lt (by decide) ?_ | refine Lf (by decide) ?_ | refine Cl (by decide) ?_ | refine Cr (by decide) ?_ | refine ⟨_, rfl, ?_⟩ | refine Mi rfl ?_); (conv => whnf)))
                refine litE t7 ?_
                ((conv => whnf); repeat ((first | refine Wo ?_ | refine Lt (by decide) ?_ | refine Lf (by decide) ?_ | refine Cl (by decide) ?_ | refine Cr (by decide) ?_ | refine ⟨_, rfl, ?_⟩ | refine Mi rfl ?_); (conv => whnf)))
                refine litE t3 ?_
                ((conv => whnf); repeat ((first | refine Wo ?_ | refine Lt (by decide) ?_ | refine Lf (by decide) ?_ | refine Cl (by decide) ?_ | refine Cr (by decide) ?_ | refine ⟨_, rfl, ?_⟩ | refine Mi rfl ?_); (conv => whnf)))
                refine ⟨hlen.1, hlen.2, ?_⟩
                ((conv => whnf); repeat ((first | refine Wo ?_ | refine Lt (by decide) ?_ | refine Lf (by decide) ?_ | refine Cl (by decide) ?_ | refine Cr (by decide) ?_ | refine ⟨_, rfl, ?_⟩ | refine Mi rfl ?_); (conv => whnf)))
                refine litE t4 ?_
                ((conv => whnf); repeat ((first | refine Wo ?_ | refine Lt (by decide) ?_ | refine Lf (by decide) ?_ | refine Cl (by decide) ?_ | refine Cr (by decide) ?_ | refine ⟨_, rfl, ?_⟩ | refine Mi rfl ?_); (conv => whnf)))
                refine litE t7 ?_
                ((conv => whnf); repeat ((first | refine Wo ?_ | refine Lt (by decide) ?_ | refine Lf (by decide) ?_ | refine Cl (by decide) ?_ | refine Cr (by decide) ?_ | refine ⟨_, rfl, ?_⟩ | refine Mi rfl ?_); (conv => whnf)))
                refine ⟨hlen.1, hlen.2, ?_⟩
                ((conv => whnf); repeat ((first | refine Wo ?_ | refine Lt (by decide) ?_ | refine Lf (by decide) ?_ | refine Cl (by decide) ?_ | refine Cr (by decide) ?_ | refine ⟨_, rfl, ?_⟩ | refine Mi rfl ?_); (conv => whnf)))
                refine ih (i + 1, a, bad) _ ⟨by dsimp only; omega, by dsimp only; omega, he⟩ ?_
                (refine Wk.pin [0, 1] _ _ ?_ ?_ rfl rfl (by decide) rfl rfl <;> (repeat' first | exact trivial | rfl | (refine And.intro ?_ ?_)))
                exact inE (i64n (by simp) (by omega))
              · have t4 : (!(n == a)) = true := by simp [hna]
                rw [if_pos ⟨hn, hna⟩] at he
                ((conv => whnf); repeat ((first | refine Wo ?_ | refine Lt (by decide) ?_ | refine Lf (by decide) ?_ | refine Cl (by decide) ?_ | refine Cr (by decide) ?_ | refine ⟨_, rfl, ?_⟩ | refine Mi rfl ?_); (conv => whnf)))
                refine Lt t1 ?_
                ((conv => whnf); repeat ((first | refine Wo ?_ | refine Lt (by decide) ?_ | refine Lf (by decide) ?_ | refine Cl (by decide) ?_ | refine Cr (by decide) ?_ | refine ⟨_, rfl, ?_⟩ | refine Mi rfl ?_); (conv => whnf)))
                refine ⟨by omega, by omega, ?_⟩
                ((conv => whnf); repeat ((first | refine Wo ?_ | refine Lt (by decide) ?_ | refine Lf (by decide) ?_ | refine Cl (by decide) ?_ | refine Cr (by decide) ?_ | refine ⟨_, rfl, ?_⟩ | refine Mi rfl ?_); (conv => whnf)))
                refine fm_ld valC_len hx ?_
                ((conv => whnf); repeat ((first | refine Wo ?_ | refine Lt (by decide) ?_ | refine Lf (by decide) ?_ | refine Cl (by decide) ?_ | refine Cr (by decide) ?_ | refine ⟨_, rfl, ?_⟩ | refine Mi rfl ?_); (conv => whnf)))
                refine litE t2 ?_
                ((conv => whnf); repeat ((first | refine Wo ?_ | refine Lt (by decide) ?_ | refine Lf (by decide) ?_ | refine Cl (by decide) ?_ | refine Cr (by decide) ?_ | refine ⟨_, rfl, ?_⟩ | refine Mi rfl ?_); (conv => whnf)))
                refine litE t7 ?_
                ((conv => whnf); repeat ((first | refine Wo ?_ | refine Lt (by decide) ?_ | refine Lf (by decide) ?_ | refine Cl (by decide) ?_ | refine Cr (by decide) ?_ | refine ⟨_, rfl, ?_⟩ | refine Mi rfl ?_); (conv => whnf)))
                refine litE t3 ?_
                ((conv => whnf); repeat ((first | refine Wo ?_ | refine Lt (by decide) ?_ | refine Lf (by decide) ?_ | refine Cl (by decide) ?_ | refine Cr (by decide) ?_ | refine ⟨_, rfl, ?_⟩ | refine Mi rfl ?_); (conv => whnf)))
                refine ⟨hlen.1, hlen.2, ?_⟩
                ((conv => whnf); repeat ((first | refine Wo ?_ | refine Lt (by decide) ?_ | refine Lf (by decide) ?_ | refine Cl (by decide) ?_ | refine Cr (by decide) ?_ | refine ⟨_, rfl, ?_⟩ | refine Mi rfl ?_); (conv => whnf)))
                refine litE t4 ?_
                ((conv => whnf); repeat ((first | refine Wo ?_ | refine Lt (by decide) ?_ | refine Lf (by decide) ?_ | refine Cl (by decide) ?_ | refine Cr (by decide) ?_ | refine ⟨_, rfl, ?_⟩ | refine Mi rfl ?_); (conv => whnf)))
                refine ih (i + 1, n, 4) _ ⟨by dsimp only; omega, by dsimp only; omega, he⟩ ?_
                (refine Wk.pin [0, 1] _ _ ?_ ?_ rfl rfl (by decide) rfl rfl <;> (repeat' first | exact trivial | rfl | (refine And.intro ?_ ?_)))
                exact inE (i64n (by simp) (by omega))
            · have t3 : decide (n ≥ 0) = false := decide_eq_false hn
              rw [if_neg (by rintro ⟨h, _⟩; exact hn h)] at he
              ((conv => whnf); repeat ((first | refine Wo ?_ | refine Lt (by decide) ?_ | refine Lf (by decide) ?_ | refine Cl (by decide) ?_ | refine Cr (by decide) ?_ | refine ⟨_, rfl, ?_⟩ | refine Mi rfl ?_); (conv => whnf)))
              refine Lt t1 ?_
              ((conv => whnf); repeat ((first | refine Wo ?_ | refine Lt (by decide) ?_ | refine Lf (by decide) ?_ | refine Cl (by decide) ?_ | refine Cr (by decide) ?_ | refine ⟨_, rfl, ?_⟩ | refine Mi rfl ?_); (conv => whnf)))
              refine ⟨by omega, by omega, ?_⟩
              ((conv => whnf); repeat ((first | refine Wo ?_ | refine Lt (by decide) ?_ | refine Lf (by decide) ?_ | refine Cl (by decide) ?_ | refine Cr (by decide) ?_ | refine ⟨_, rfl, ?_⟩ | refine Mi rfl ?_); (conv => whnf)))
              refine fm_ld valC_len hx ?_
              ((conv => whnf); repeat ((first | refine Wo ?_ | refine Lt (by decide) ?_ | refine Lf (by decide) ?_ | refine Cl (by decide) ?_ | refine Cr (by decide) ?_ | refine ⟨_, rfl, ?_⟩ | refine Mi rfl ?_); (conv => whnf)))
              refine litE t2 ?_
              ((conv => whnf); repeat ((first | refine Wo ?_ | refine Lt (by decide) ?_ | refine Lf (by decide) ?_ | refine Cl (by decide) ?_ | refine Cr (by decide) ?_ | refine ⟨_, rfl, ?_⟩ | refine Mi rfl ?_); (conv => whnf)))
              refine litE t7 ?_
              ((conv => whnf); repeat ((first | refine Wo ?_ | refine Lt (by decide) ?_ | refine Lf (by decide) ?_ | refine Cl (by decide) ?_ | refine Cr (by decide) ?_ | refine ⟨_, rfl, ?_⟩ | refine Mi rfl ?_); (conv => whnf)))
              refine litE t3 ?_
              ((conv => whnf); repeat ((first | refine Wo ?_ | refine Lt (by decide) ?_ | refine Lf (by decide) ?_ | refine Cl (by decide) ?_ | refine Cr (by decide) ?_ | refine ⟨_, rfl, ?_⟩ | refine Mi rfl ?_); (conv => whnf)))
              refine litE t7 ?_
              ((conv => whnf); repeat ((first | refine Wo ?_ | refine Lt (by decide) ?_ | refine Lf (by decide) ?_ | refine Cl (by decide) ?_ | refine Cr (by decide) ?_ | refine ⟨_, rfl, ?_⟩ | refine Mi rfl ?_); (conv => whnf)))
              refine ⟨hlen.1, hlen.2, ?_⟩
              ((conv => whnf); repeat ((first | refine Wo ?_ | refine Lt (by decide) ?_ | refine Lf (by decide) ?_ | refine Cl (by decide) ?_ | refine Cr (by decide) ?_ | refine ⟨_, rfl, ?_⟩ | refine Mi rfl ?_); (conv => whnf)))
              refine ih (i + 1, a, bad) _ ⟨by dsimp only; omega, by dsimp only; omega, he⟩ ?_
              (refine Wk.pin [0, 1] _ _ ?_ ?_ rfl rfl (by decide) rfl rfl <;> (repeat' first | exact trivial | rfl | (refine And.intro ?_ ?_)))
              exact inE (i64n (by simp) (by omega))
    · have t1 : decide ((i : Int) < (ins.length : Int)) = false := by simpa using hlt
      rw [List.drop_eq_nil_of_le (by omega), scanS] at he
      rw [he] at hr
      dsimp only at hr
      by_cases hb : bad = 0
      · have t5 : (!(bad == 0)) = false := by simp [hb]
        rw [if_neg (by simp [hb])] at hr
        by_cases hn : n = 0
        · have t6 : (n == 0) = true := by simp [hn]
          rw [if_pos hn] at hr
          subst hr
          ((conv => whnf); repeat ((first | refine Wo ?_ | refine Lt (by decide) ?_ | refine Lf (by decide) ?_ | refine Cl (by decide) ?_ | refine Cr (by decide) ?_ | refine ⟨_, rfl, ?_⟩ | refine Mi rfl ?_); (conv => whnf)))
          refine Lf t1 ?_
          ((conv => whnf); repeat ((first | refine Wo ?_ | refine Lt (by decide) ?_ | refine Lf (by decide) ?_ | refine Cl (by decide) ?_ | refine Cr (by decide) ?_ | refine ⟨_, rfl, ?_⟩ | refine Mi rfl ?_); (conv => whnf)))
          refine litE t5 ?_
          ((conv => whnf); repeat ((first | refine Wo ?_ | refine Lt (by decide) ?_ | refine Lf (by decide) ?_ | refine Cl (by decide) ?_ | refine Cr (by decide) ?_ | refine ⟨_, rfl, ?_⟩ | refine Mi rfl ?_); (conv => whnf)))
          refine litE t6 ?_
          ((conv => whnf); repeat ((first | refine Wo ?_ | refine Lt (by decide) ?_ | refine Lf (by decide) ?_ | refine Cl (by decide) ?_ | refine Cr (by decide) ?_ | refine ⟨_, rfl, ?_⟩ | refine Mi rfl ?_); (conv => whnf)))
          ((conv => whnf); ((repeat ((conv => arg 1; whnf); first | exact Tels.nil | apply Tels.cons | apply Tel.aggs | apply Tel.tups | exact Tel.refl _ | exact Tel.nil1 _ | exact Tel.cap _ _ _ _)); done))
        · have t6 : (n == 0) = false := by simp [hn]
          rw [if_neg hn] at hr
          subst hr
          ((conv => whnf); repeat ((first | refine Wo ?_ | refine Lt (by decide) ?_ | refine Lf (by decide) ?_ | refine Cl (by decide) ?_ | refine Cr (by decide) ?_ | refine ⟨_, rfl, ?_⟩ | refine Mi rfl ?_); (conv => whnf)))
          refine Lf t1 ?_
          ((conv => whnf); repeat ((first | refine Wo ?_ | refine Lt (by decide) ?_ | refine Lf (by decide) ?_ | refine Cl (by decide) ?_ | refine Cr (by decide) ?_ | refine ⟨_, rfl, ?_⟩ | refine Mi rfl ?_); (conv => whnf)))
          refine litE t5 ?_
          ((conv => whnf); repeat ((first | refine Wo ?_ | refine Lt (by decide) ?_ | refine Lf (by decide) ?_ | refine Cl (by decide) ?_ | refine Cr (by decide) ?_ | refine ⟨_, rfl, ?_⟩ | refine Mi rfl ?_); (conv => whnf)))
          refine litE t6 ?_
          ((conv => whnf); repeat ((first | refine Wo ?_ | refine Lt (by decide) ?_ | refine Lf (by decide) ?_ | refine Cl (by decide) ?_ | refine Cr (by decide) ?_ | refine ⟨_, rfl, ?_⟩ | refine Mi rfl ?_); (conv => whnf)))
          (refine And.intro (by decide +kernel) ?_; apply Exists.intro; apply And.intro; focus ((repeat' ((conv => whnf); first | exact trivial | refine Wo ?_ | refine Lt (by decide) ?_ | refine Lf (by decide) ?_ | refine Cl (by decide) ?_ | refine Cr (by decide) ?_ | refine ⟨_, rfl, ?_⟩ | refine Mi rfl ?_ | (first | (refine Hc.runs hc ?_ ?_; (focus ((repeat ((conv => arg 1; whnf); first | exact Tels.nil | apply Tels.cons | apply Tel.aggs | apply Tel.tups | exact Tel.refl _ | exact Tel.nil1 _ | exact Tel.cap _ _ _ _)); done)))) | (refine And.intro ?_ ?_))); all_goals (first | ((conv => whnf); exact Wk.frc (keep := [0, 1, 2, 4, 5, 6, 7, 9, 18, 20, 21, 22, 23, 26, 32, 49, 59, 64]) (N := 74) (by (conv => whnf); first | done | exact rfl)) | (first | decide | rfl | assumption | omega | (dsimp only; omega) | (unfold maxLen; omega) | ((try dsimp only [maxLen]); simp only [List.length_append, List.length_cons, List.length_nil, List.length_map, List.length_range, List.length_set, List.length_replicate]; omega) | ((try dsimp only [maxLen]); simp only [IntKind.wrap_i64, IntKind.wrap_u64, List.length_append, List.length_cons, List.length_nil, List.length_map, List.length_range, List.length_set, List.length_replicate]; omega) | ((try dsimp only [maxLen]); simp only [List.length_append, List.length_cons, List.length_nil, List.length_map, List.length_range, List.length_set, List.length_replicate] at *; omega)))))
          ((conv => whnf); repeat ((first | refine Wo ?_ | refine Lt (by decide) ?_ | refine Lf (by decide) ?_ | refine Cl (by decide) ?_ | refine Cr (by decide) ?_ | refine ⟨_, rfl, ?_⟩ | refine Mi rfl ?_); (conv => whnf)))
          ((conv => whnf); ((repeat ((conv => arg 1; whnf); first | exact Tels.nil | apply Tels.cons | apply Tel.aggs | apply Tel.tups | exact Tel.refl _ | exact Tel.nil1 _ | exact Tel.cap _ _ _ _)); done))
      · have t5 : (!(bad == 0)) = true := by simp [hb]
        rw [if_pos hb] at hr
        subst hr
        ((conv => whnf); repeat ((first | refine Wo ?_ | refine Lt (by decide) ?_ | refine Lf (by decide) ?_ | refine Cl (by decide) ?_ | refine Cr (by decide) ?_ | refine ⟨_, rfl, ?_⟩ | refine Mi rfl ?_); (conv => whnf)))
        refine Lf t1 ?_
        ((conv => whnf); repeat ((first | refine Wo ?_ | refine Lt (by decide) ?_ | refine Lf (by decide) ?_ | refine Cl (by decide) ?_ | refine Cr (by decide) ?_ | refine ⟨_, rfl, ?_⟩ | refine Mi rfl ?_); (conv => whnf)))
        refine litE t5 ?_
        ((conv => whnf); repeat ((first | refine Wo ?_ | refine Lt (by decide) ?_ | refine Lf (by decide) ?_ | refine Cl (by decide) ?_ | refine Cr (by decide) ?_ | refine ⟨_, rfl, ?_⟩ | refine Mi rfl ?_); (conv => whnf)))
        ((conv => whnf); ((repeat ((conv => arg 1; whnf); first | exact Tels.nil | apply Tels.cons | apply Tel.aggs | apply Tel.tups | exact Tel.refl _ | exact Tel.nil1 _ | exact Tel.cap _ _ _ _)); done))
  · (refine Wk.pin [0, 1] _ _ ?_ ?_ rfl rfl (by decide) rfl rfl <;> (repeat' first | exact trivial | rfl | (refine And.intro ?_ ?_)))
theorem start_runs (ops : List OpL) (fold : ByteArray) (ins : List ValL) (ho : ops.length ≤ 100000000) (hi : ins.length ≤ 100000000) (hb : ∀ v ∈ ins, v.1.length ≤ 100000000 ∧ v.2.length ≤ 100000000) : Runs Tryz.prog 28 [cD ops fold, rV ins] (.tup [frD (startF ops fold ins).1, iD (startF ops fold ins).2]) := by
  have m := may_runs2 ops fold ins.length ho
  have c := contFV_runs (l := ins) (p := fun v => !good v.1 v.2) (F := 68) (by omega) (fun v hv => start1_runs v (hb v hv).1 (hb v hv).2)
  cases hm : mayC ops fold ins.length with
  | false =>
    rw [hm] at m
    have e : startF ops fold ins = (frZ, 1) := by unfold startF; rw [if_neg (by rw [hm]; simp)]
    rw [e]
    exact start_no m
  | true =>
    rw [hm] at m
    cases hc : (ins.any fun v => !good v.1 v.2) with
    | true =>
      rw [hc] at c
      have e : startF ops fold ins = (frZ, 1) := by unfold startF; rw [if_neg (by rw [hc]; simp)]
      rw [e]
      exact start_no2 m c
    | false =>
      rw [hc] at c
      exact start_go hi m c (by unfold startF; rw [if_pos ⟨hm, hc⟩])
end Go.Proofs.YtjldjhlccedkbaaGreatDoor.Am
end
