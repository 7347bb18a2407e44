/- What the law leans on, part 33: declarations of several texts of ours, in their order. -/
import Derived.Test.YtkhgpnbhnipndaaGreatDoorXFS31
import Derived.Test.YtkhgpnbhnipndaaGreatDoorXFS29
import Derived.Test.YtkhgpnbhnipndaaGreatDoorXFS30
section
/- The document's codes: what the code makes of an element. -/
namespace Go.Proofs.YtkhgpnbhnipndaaGreatDoor.Am
open Go Go.RowKit Go.Proofs.YtkhgpnbhnipndaaGreatDoor.Sh
set_option linter.unusedVariables false
set_option linter.unusedSimpArgs false
set_option maxRecDepth 100000
set_option maxHeartbeats 8000000
noncomputable def rmQ (ops : List OpL) (fold acc : ByteArray) (ins : List ValL) (n k : Int) (out : List ByteArray) (i : Nat) (st : List ByteArray) : St :=
  { t := pin [(1, .pt 0 0), (4, .bs 1), (5, .d (iD i))], N := 112,
    h := hpin [some (.st 39 [.d (rO ops), .d (sD fold), .d (rV ins), .d (iD n), .d (iD k), .d (rS out none), .d (sD acc)]), some (.ar 9 1 st.length (st.map sD))], n := 2, lo := 0 }
theorem rmade_runs {ops : List OpL} {fold acc : ByteArray} {ins : List ValL} {n : Int} {k : Nat} {out : List ByteArray} (hd : deepC ins.length ops 0 = some 1) (hl : ops.length ≤ 200) (hi : ins.length ≤ 100000000) (he : ∀ v ∈ ins, v.2 ≠ [] ∧ v.2.length ≤ 100000000 ∧ ∀ b ∈ v.2, mayB b = true) (hk : k ≤ 100000000)
    (hN : ∀ v ∈ ins, v.1.length = 1 ∧ k < v.2.length ∨ v.1.length ≠ 1 ∧ v.2.length = 1) :
    Runs Tryz.prog 59 [frE ops fold ins n k out acc] (.tup [sD (oneC ins k ops []).1, iD (oneC ins k ops []).2]) := by
  refine Runs.wp Am.hT Am.hm Tryz.func59 rfl (by decide) ⟨[(13, .first 0 (.first 2 (.first 7 (.load 1 [4, 5, 6, 9, 10, 11] (.load 3 [4, 5, 6, 9, 10, 11] (.first 4 (.first 5 (.load 6 [9, 10, 11] (.load 8 [9, 10, 11] (.first 9 (.load 10 [11] (.first 11 .done)))))))))))), (15, .first 0 (.first 2 (.first 3 (.first 4 (.first 5 (.first 7 (.first 8 (.first 9 (.first 10 (.load 1 [12, 13, 14, 15, 16, 17] (.load 6 [12, 13, 14, 15, 16, 17] (.load 11 [12, 13, 14, 15, 16, 17] (.alt 12 (.first 13 (.first 14 (.first 15 (.first 16 (.first 17 .done))))) .nil))))))))))))), (18, .first 0 (.first 2 (.first 3 (.first 4 (.first 5 (.load 1 [7, 8, 9, 10, 11, 12] (.load 6 [7, 8, 9, 10, 11, 12] (.alt 7 (.first 8 (.first 9 (.first 10 (.first 11 (.first 12 .done))))) .nil))))))))], [0, 1, 2, 3, 4, 5, 6, 7, 8, 9, 15, 29, 30, 49, 61, 83, 101], 112⟩ ?_; ((conv => whnf); repeat (refine Gq ?_; (conv => whnf)))
  refine loop_ind (fun j (x : Nat × List ByteArray) => x.1 + j = ops.length + 1 ∧ x.1 ≤ ops.length ∧ x.2.length ≤ x.1 ∧ (∀ b ∈ x.2, mayB b = true) ∧ deepC ins.length (ops.drop x.1) x.2.length = some 1 ∧ oneC ins k ops [] = oneC ins k (ops.drop x.1) x.2) (fun x => rmQ ops fold acc ins n k out x.1 x.2) (fun x h => by omega) ?_ (ops.length + 1) (0, []) ⟨by simp, by simp, by simp, by simp, hd, rfl⟩ _ ?_
  · rintro j ⟨i, st⟩ R ih ⟨hj, hi', hst, hm, hdp, ho⟩
    dsimp only at *
    unfold rmQ
    by_cases hlt : i < ops.length
    · have t4 : decide ((i : Int) < (ops.length : Int)) = true := by simpa using hlt
      have hx : ops[i]? = some ops[i] := List.getElem?_eq_getElem hlt
      rw [List.drop_eq_getElem_cons hlt, deepC] at hdp
      rw [List.drop_eq_getElem_cons hlt, oneC] at ho
      generalize ops[i] = o at *
      obtain ⟨⟨kd, sl⟩, tx⟩ := o
      by_cases hn : needsZ ins.length ((kd, sl), tx) < 0 ∨ (st.length : Int) < needsZ ins.length ((kd, sl), tx)
      · rw [if_pos hn] at hdp; cases hdp
      rw [if_neg hn] at hdp
      have hn0 : ¬ needsZ ins.length ((kd, sl), tx) < 0 := fun h => hn (.inl h)
      have hn1 : ¬ (st.length : Int) < needsZ ins.length ((kd, sl), tx) := fun h => hn (.inr h)
      clear hn
      by_cases h2 : kd = 2
      · subst h2
        have hz : needsZ ins.length ((2, sl), tx) = 0 ∧ mayB tx = true := by
          unfold needsZ at hn0 ⊢
          dsimp only at hn0 ⊢
          by_cases hmt : mayB tx = true
          · exact ⟨if_pos (.inr ⟨rfl, hmt⟩), hmt⟩
          · rw [if_neg (by rintro (⟨h, _⟩ | ⟨_, h⟩); cases h; exact hmt h), if_neg (by rintro ⟨h, _⟩; cases h), if_neg (by rintro ⟨h, _⟩; cases h)] at hn0
            exact absurd (by decide) hn0
        rw [hz.1] at hdp
        have ho' : oneC ins k ops [] = oneC ins k (ops.drop (i + 1)) (st ++ [tx]) := ho
        have u1 : ((((2 : Int), sl), tx).1.1 == 1) = false := rfl
        have u2 : ((((2 : Int), sl), tx).1.1 == 3) = false := rfl
        have u3 : ((((2 : Int), sl), tx).1.1 == 4) = false := rfl
        ((conv => whnf); repeat (refine Gq ?_; (conv => whnf)))
        refine Lt t4 ?_
        ((conv => whnf); repeat (refine Gq ?_; (conv => whnf)))
        refine ⟨by omega, by omega, ?_⟩
        ((conv => whnf); repeat (refine Gq ?_; (conv => whnf)))
        refine fm_ld opC_len hx ?_
        ((conv => whnf); repeat (refine Gq ?_; (conv => whnf)))
        refine litE u1 ?_
        ((conv => whnf); repeat (refine Gq ?_; (conv => whnf)))
        refine litE u2 ?_
        ((conv => whnf); repeat (refine Gq ?_; (conv => whnf)))
        refine litE u3 ?_
        ((conv => whnf); repeat (refine Gq ?_; (conv => whnf)))
        refine ⟨by unfold maxLen; omega, by dsimp only; omega, ?_⟩
        ((conv => whnf); repeat (refine Gq ?_; (conv => whnf)))
        refine ⟨by unfold maxLen; omega, by dsimp only; omega, ?_⟩
        ((conv => whnf); repeat (refine Gq ?_; (conv => whnf)))
        refine ih (i + 1, st ++ [tx]) _ ⟨by dsimp only; omega, by dsimp only; omega, by dsimp only; rw [List.length_append, List.length_singleton]; omega, fun b hb => ?_, by dsimp only; rw [List.length_append, List.length_singleton]; exact hdp, ho'⟩ ?_
        · rcases List.mem_append.1 hb with h | h
          · exact hm b h
          · rw [List.mem_singleton.1 h]; exact hz.2
        dsimp only
        unfold rmQ
        (refine Wk.pin [0, 6] _ _ ?_ ?_ rfl rfl (by decide) rfl rfl <;> (repeat' first | exact trivial | rfl | (refine And.intro ?_ ?_)))
        · exact inE (i64n (n := i + 1) (by omega) (by omega))
        · exact arE (by simp) (by simp)
      by_cases h1 : kd = 1
      · subst h1
        have hz : needsZ ins.length ((1, sl), tx) = 0 ∧ 0 ≤ sl ∧ sl < ins.length := by
          unfold needsZ at hn0 ⊢
          dsimp only at hn0 ⊢
          by_cases hmt : 0 ≤ sl ∧ sl < ins.length
          · exact ⟨if_pos (.inl ⟨rfl, hmt⟩), hmt⟩
          · rw [if_neg (by rintro (⟨_, h⟩ | ⟨h, _⟩); exact hmt h; cases h), if_neg (by rintro ⟨h, _⟩; cases h), if_neg (by rintro ⟨h, _⟩; cases h)] at hn0
            exact absurd (by decide) hn0
        rw [hz.1] at hdp
        obtain ⟨s, rfl⟩ := Int.eq_ofNat_of_zero_le hz.2.1
        have hs : s < ins.length := by omega
        have ho' : oneC ins k ops [] = oneC ins k (ops.drop (i + 1)) (st ++ [atF ins s k]) := ho
        have hxs : ins[s]? = some ins[s] := List.getElem?_eq_getElem hs
        have hat : atF ins s k = ins[s].2.getD (min k (ins[s].2.length - 1)) ByteArray.empty := by
          unfold atF
          have : ins.getD s ([], []) = ins[s] := by rw [List.getD_eq_getElem?_getD, hxs]; rfl
          rw [this]
        have hN' := hN _ (List.getElem_mem hs)
        have hmay := at_may (k := k) hs he
        have hne : 0 < ins[s].2.length := by omega
        have g0 : (ins.flatMap valC)[(s : Int).toNat * 2 + 0]? = some (rI ins[s].1 none) := (fm_get valC_len (i := (s : Int).toNat) (j := 0) (by rw [Int.toNat_natCast]; exact hxs) (by decide)).trans rfl
        have g1 : (ins.flatMap valC)[(s : Int).toNat * 2 + 1]? = some (rS ins[s].2 none) := (fm_get valC_len (i := (s : Int).toNat) (j := 1) (by rw [Int.toNat_natCast]; exact hxs) (by decide)).trans rfl
        have e0 : (ins[s].2.map sD)[(0 : Int).toNat * 1]? = some (sD (ins[s].2.getD 0 ByteArray.empty)) := ixm (j := 0) (by rw [List.getD_eq_getElem?_getD, List.getElem?_eq_getElem hne]; rfl) (by simp)
        have u1 : ((((1 : Int), (s : Int)), tx).1.1 == 1) = true := rfl
        generalize atF ins s k = y at *
        generalize ins[s] = v at *
        rcases hN' with ⟨h7, h8⟩ | ⟨h7, h8⟩
        · have u5 : (((v.1.length : Nat) : Int) == 1) = true := by rw [h7]; rfl
          have ek : (v.2.map sD)[(k : Int).toNat * 1]? = some (sD y) := ixm (j := k) (by rw [hat, List.getD_eq_getElem?_getD, Nat.min_eq_left (by omega), List.getElem?_eq_getElem h8]; rfl) (by simp)
          ((conv => whnf); repeat (refine Gq ?_; (conv => whnf)))
          refine Lt t4 ?_
          ((conv => whnf); repeat (refine Gq ?_; (conv => whnf)))
          refine ⟨by omega, by omega, ?_⟩
          ((conv => whnf); repeat (refine Gq ?_; (conv => whnf)))
          refine fm_ld opC_len hx ?_
          ((conv => whnf); repeat (refine Gq ?_; (conv => whnf)))
          refine litE u1 ?_
          ((conv => whnf); repeat (refine Gq ?_; (conv => whnf)))
          refine ⟨show (0 : Int) ≤ (s : Int) by omega, show (s : Int) < (ins.length : Int) by omega, ?_⟩
          ((conv => whnf); repeat (refine Gq ?_; (conv => whnf)))
          refine ⟨_, g1, ?_⟩
          ((conv => whnf); repeat (refine Gq ?_; (conv => whnf)))
          refine ⟨by omega, by omega, ?_⟩
          ((conv => whnf); repeat (refine Gq ?_; (conv => whnf)))
          refine ⟨_, e0, ?_⟩
          ((conv => whnf); repeat (refine Gq ?_; (conv => whnf)))
          refine ⟨show (0 : Int) ≤ (s : Int) by omega, show (s : Int) < (ins.length : Int) by omega, ?_⟩
          ((conv => whnf); repeat (refine Gq ?_; (conv => whnf)))
          refine ⟨_, g0, ?_⟩
          ((conv => whnf); repeat (refine Gq ?_; (conv => whnf)))
          refine litE u5 ?_
          ((conv => whnf); repeat (refine Gq ?_; (conv => whnf)))
          (refine And.intro (by decide +kernel) ?_; apply Exists.intro; apply And.intro; focus ((repeat' ((conv => whnf); first | exact trivial | refine Wo ?_ | refine Lt (by decide) ?_ | refine Lf (by decide) ?_ | refine Cl (by decide) ?_ | refine Cr (by decide) ?_ | refine Both.mk ?_ ?_ | (first | exact Wk.frc (keep := [0, 1, 2, 3, 4, 5, 6, 7, 8, 9, 15, 29, 30, 49, 61, 83, 101]) (N := 112) (by (conv => whnf); first | done | exact rfl) | refine And.intro (show (0 : Int) ≤ (s : Int) by omega) ?_ | refine And.intro (show (s : Int) < (ins.length : Int) by omega) ?_ | refine And.intro (show (0 : Int) ≤ (k : Int) by omega) ?_ | refine And.intro (show (k : Int) < (v.2.length : Int) by omega) ?_ | refine ⟨_, g1, ?_⟩ | refine ⟨_, ek, ?_⟩) | refine ⟨_, rfl, ?_⟩ | refine Mi rfl ?_ | (refine And.intro ?_ ?_))); all_goals (first | decide | rfl | assumption | omega | (dsimp only; omega) | (unfold maxLen; omega) | ((try dsimp only [maxLen]); simp only [List.length_append, List.length_cons, List.length_nil, List.length_map, List.length_range, List.length_set, List.length_replicate]; omega) | ((try dsimp only [maxLen]); simp only [IntKind.wrap_i64, IntKind.wrap_u64, List.length_append, List.length_cons, List.length_nil, List.length_map, List.length_range, List.length_set, List.length_replicate]; omega) | ((try dsimp only [maxLen]); simp only [List.length_append, List.length_cons, List.length_nil, List.length_map, List.length_range, List.length_set, List.length_replicate] at *; omega))))
          ((conv => whnf); repeat (refine Gq ?_; (conv => whnf)))
          refine ⟨by unfold maxLen; omega, by dsimp only; omega, ?_⟩
          ((conv => whnf); repeat (refine Gq ?_; (conv => whnf)))
          refine ⟨by unfold maxLen; omega, by dsimp only; omega, ?_⟩
          ((conv => whnf); repeat (refine Gq ?_; (conv => whnf)))
          refine ih (i + 1, st ++ [y]) _ ⟨by dsimp only; omega, by dsimp only; omega, by dsimp only; rw [List.length_append, List.length_singleton]; omega, fun b hb => ?_, by dsimp only; rw [List.length_append, List.length_singleton]; exact hdp, ho'⟩ ?_
          · rcases List.mem_append.1 hb with h | h
            · exact hm b h
            · rw [List.mem_singleton.1 h]; exact hmay
          dsimp only
          unfold rmQ
          (refine Wk.pin [0, 6] _ _ ?_ ?_ rfl rfl (by decide) rfl rfl <;> (repeat' first | exact trivial | rfl | (refine And.intro ?_ ?_)))
          · exact inE (i64n (n := i + 1) (by omega) (by omega))
          · exact arE (by simp) (by simp)
        · have u5 : (((v.1.length : Nat) : Int) == 1) = false := by rw [beq_eq_false_iff_ne]; omega
          have ey : v.2.getD 0 ByteArray.empty = y := by rw [hat, Nat.min_eq_right (by omega), h8]
          rw [ey] at e0
          ((conv => whnf); repeat (refine Gq ?_; (conv => whnf)))
          refine Lt t4 ?_
          ((conv => whnf); repeat (refine Gq ?_; (conv => whnf)))
          refine ⟨by omega, by omega, ?_⟩
          ((conv => whnf); repeat (refine Gq ?_; (conv => whnf)))
          refine fm_ld opC_len hx ?_
          ((conv => whnf); repeat (refine Gq ?_; (conv => whnf)))
          refine litE u1 ?_
          ((conv => whnf); repeat (refine Gq ?_; (conv => whnf)))
          refine ⟨show (0 : Int) ≤ (s : Int) by omega, show (s : Int) < (ins.length : Int) by omega, ?_⟩
          ((conv => whnf); repeat (refine Gq ?_; (conv => whnf)))
          refine ⟨_, g1, ?_⟩
          ((conv => whnf); repeat (refine Gq ?_; (conv => whnf)))
          refine ⟨by omega, by omega, ?_⟩
          ((conv => whnf); repeat (refine Gq ?_; (conv => whnf)))
          refine ⟨_, e0, ?_⟩
          ((conv => whnf); repeat (refine Gq ?_; (conv => whnf)))
          refine ⟨show (0 : Int) ≤ (s : Int) by omega, show (s : Int) < (ins.length : Int) by omega, ?_⟩
          ((conv => whnf); repeat (refine Gq ?_; (conv => whnf)))
          refine ⟨_, g0, ?_⟩
          ((conv => whnf); repeat (refine Gq ?_; (conv => whnf)))
          refine litE u5 ?_
          ((conv => whnf); repeat (refine Gq ?_; (conv => whnf)))
          refine ⟨by unfold maxLen; omega, by dsimp only; omega, ?_⟩
          ((conv => whnf); repeat (refine Gq ?_; (conv => whnf)))
          refine ⟨by unfold maxLen; omega, by dsimp only; omega, ?_⟩
          ((conv => whnf); repeat (refine Gq ?_; (conv => whnf)))
          refine ih (i + 1, st ++ [y]) _ ⟨by dsimp only; omega, by dsimp only; omega, by dsimp only; rw [List.length_append, List.length_singleton]; omega, fun b hb => ?_, by dsimp only; rw [List.length_append, List.length_singleton]; exact hdp, ho'⟩ ?_
          · rcases List.mem_append.1 hb with h | h
            · exact hm b h
            · rw [List.mem_singleton.1 h]; exact hmay
          dsimp only
          unfold rmQ
          (refine Wk.pin [0, 6] _ _ ?_ ?_ rfl rfl (by decide) rfl rfl <;> (repeat' first | exact trivial | rfl | (refine And.intro ?_ ?_)))
          · exact inE (i64n (n := i + 1) (by omega) (by omega))
          · exact arE (by simp) (by simp)
      by_cases h3 : kd = 3
      · subst h3
        have hz : needsZ ins.length ((3, sl), tx) = 2 ∧ sgB whS tx = true := by
          unfold needsZ at hn0 ⊢
          dsimp only at hn0 ⊢
          have g1 : ¬ ((3 : Int) = 1 ∧ 0 ≤ sl ∧ sl < ins.length ∨ (3 : Int) = 2 ∧ mayB tx = true) := by rintro (⟨h, _⟩ | ⟨h, _⟩) <;> cases h
          rw [if_neg g1] at hn0 ⊢
          by_cases hmt : sgB whS tx = true
          · exact ⟨if_pos ⟨rfl, hmt⟩, hmt⟩
          · rw [if_neg (by rintro ⟨_, h⟩; exact hmt h), if_neg (by rintro ⟨h, _⟩; cases h)] at hn0
            exact absurd (by decide) hn0
        rw [hz.1] at hdp hn1
        obtain ⟨p, a, b, rfl⟩ : ∃ p a b, st = p ++ [a, b] := by
          rcases snoc_cases st with rfl | ⟨q, b, rfl⟩
          · simp at hn1
          · rcases snoc_cases q with rfl | ⟨p, a, rfl⟩
            · simp at hn1
            · exact ⟨p, a, b, by simp⟩
        have u1 : ((((3 : Int), sl), tx).1.1 == 1) = false := rfl
        have u2 : ((((3 : Int), sl), tx).1.1 == 3) = true := rfl
        have hlen : (p ++ [a, b]).length = p.length + 2 := by simp
        have e2 : IntKind.i64.wrap (((p ++ [a, b]).length : Int) - 2) = (p.length : Int) := by rw [hlen]; exact i64n (n := p.length) (by omega) (by omega)
        have e1 : IntKind.i64.wrap (((p ++ [a, b]).length : Int) - 1) = ((p.length + 1 : Nat) : Int) := by rw [hlen]; exact i64n (n := p.length + 1) (by omega) (by omega)
        have ga : ((p ++ [a, b]).map sD)[(IntKind.i64.wrap (((p ++ [a, b]).length : Int) - 2)).toNat * 1]? = some (sD a) := ixm (j := p.length) (by simp) (by rw [e2]; simp)
        have gb : ((p ++ [a, b]).map sD)[(IntKind.i64.wrap (((p ++ [a, b]).length : Int) - 1)).toNat * 1]? = some (sD b) := ixm (j := p.length + 1) (by simp) (by rw [e1, Int.toNat_natCast, Nat.mul_one])
        have ma : mayB a = true := hm a (by simp)
        have mb : mayB b = true := hm b (by simp)
        have dd := rsd_runs (wh_dy hz.2) ma mb
        have hmr := sd_may (op := tx) ma mb
        have ho' : oneC ins k ops [] = if (sd tx a b).2 = 0 then oneC ins k (ops.drop (i + 1)) (p ++ [(sd tx a b).1]) else (ByteArray.empty, (sd tx a b).2) := by
          rw [ho]
          simp [List.dropLast_append_of_ne_nil]
        generalize sd tx a b = r at *
        obtain ⟨rx, re⟩ := r
        dsimp only at *
        ((conv => whnf); repeat (refine Gq ?_; (conv => whnf)))
        refine Lt t4 ?_
        ((conv => whnf); repeat (refine Gq ?_; (conv => whnf)))
        refine ⟨by omega, by omega, ?_⟩
        ((conv => whnf); repeat (refine Gq ?_; (conv => whnf)))
        refine fm_ld opC_len hx ?_
        ((conv => whnf); repeat (refine Gq ?_; (conv => whnf)))
        refine litE u1 ?_
        ((conv => whnf); repeat (refine Gq ?_; (conv => whnf)))
        refine litE u2 ?_
        ((conv => whnf); repeat (refine Gq ?_; (conv => whnf)))
        (refine And.intro (by decide +kernel) ?_; apply Exists.intro; apply And.intro; focus ((repeat' ((conv => whnf); first | exact trivial | refine Wo ?_ | refine Lt (by decide) ?_ | refine Lf (by decide) ?_ | refine Cl (by decide) ?_ | refine Cr (by decide) ?_ | refine Both.mk ?_ ?_ | (first | exact Wk.frc (keep := [0, 1, 2, 3, 4, 5, 6, 7, 8, 9, 15, 29, 30, 49, 61, 83, 101]) (N := 112) (by (conv => whnf); first | done | exact rfl) | refine And.intro (show (0 : Int) ≤ IntKind.i64.wrap (((p ++ [a, b]).length : Int) - 2) by rw [e2]; omega) ?_ | refine And.intro (show IntKind.i64.wrap (((p ++ [a, b]).length : Int) - 2) < ((p ++ [a, b]).length : Int) by rw [e2]; omega) ?_ | refine And.intro (show (0 : Int) ≤ IntKind.i64.wrap (((p ++ [a, b]).length : Int) - 1) by rw [e1]; omega) ?_ | refine And.intro (show IntKind.i64.wrap (((p ++ [a, b]).length : Int) - 1) < ((p ++ [a, b]).length : Int) by rw [e1]; omega) ?_ | refine ⟨_, ga, ?_⟩ | refine ⟨_, gb, ?_⟩ | (refine HfA dd ?_)) | refine ⟨_, rfl, ?_⟩ | refine Mi rfl ?_ | (refine And.intro ?_ ?_))); all_goals (first | decide | rfl | assumption | omega | (dsimp only; omega) | (unfold maxLen; omega) | ((try dsimp only [maxLen]); simp only [List.length_append, List.length_cons, List.length_nil, List.length_map, List.length_range, List.length_set, List.length_replicate]; omega) | ((try dsimp only [maxLen]); simp only [IntKind.wrap_i64, IntKind.wrap_u64, List.length_append, List.length_cons, List.length_nil, List.length_map, List.length_range, List.length_set, List.length_replicate]; omega) | ((try dsimp only [maxLen]); simp only [List.length_append, List.length_cons, List.length_nil, List.length_map, List.length_range, List.length_set, List.length_replicate] at *; omega))))
        ((conv => whnf); repeat (refine Gq ?_; (conv => whnf)))
        refine ⟨by rw [e2]; omega, by rw [e2]; omega, ?_⟩
        ((conv => whnf); repeat (refine Gq ?_; (conv => whnf)))
        by_cases h0 : re = 0
        · have t5 : (!(re == 0)) = false := by rw [h0]; rfl
          refine litE t5 ?_
          ((conv => whnf); repeat (refine Gq ?_; (conv => whnf)))
          rw [if_pos h0] at ho'
          have e2n : (IntKind.i64.wrap (((p ++ [a, b]).length : Int) - 2)).toNat = p.length := by rw [e2, Int.toNat_natCast]
          refine ⟨by rw [e2n]; unfold maxLen; omega, by rw [e2n]; dsimp only; omega, ?_⟩
          ((conv => whnf); repeat (refine Gq ?_; (conv => whnf)))
          refine ⟨by rw [e2n]; unfold maxLen; omega, by rw [e2n]; dsimp only; omega, ?_⟩
          ((conv => whnf); repeat (refine Gq ?_; (conv => whnf)))
          refine ih (i + 1, p ++ [rx]) _ ⟨by dsimp only; omega, by dsimp only; omega, by dsimp only; rw [List.length_append, List.length_singleton]; omega, fun b' hb => ?_, ?_, ho'⟩ ?_
          · rcases List.mem_append.1 hb with h | h
            · exact hm b' (by simp [h])
            · rw [List.mem_singleton.1 h]; exact hmr h0
          · dsimp only
            rw [List.length_append, List.length_singleton, ← hdp]
            congr 1
            rw [hlen]
            omega
          dsimp only
          unfold rmQ
          (refine Wk.pin [0, 7] _ _ ?_ ?_ rfl rfl (by decide) rfl rfl <;> (repeat' first | exact trivial | rfl | (refine And.intro ?_ ?_)))
          · exact inE (i64n (n := i + 1) (by omega) (by omega))
          · exact arE (by rw [e2n]; simp) (by rw [e2n]; simp)
        · have t5 : (!(re == 0)) = true := by simpa using h0
          rw [if_neg h0] at ho'
          rw [ho']
          refine litE t5 ?_
          ((conv => whnf); repeat (refine Gq ?_; (conv => whnf)))
          exact TeA
      · have hz : needsZ ins.length ((kd, sl), tx) = 1 ∧ sgB moS tx = true ∧ kd = 4 := by
          unfold needsZ at hn0 ⊢
          dsimp only at hn0 ⊢
          have g1 : ¬ (kd = 1 ∧ 0 ≤ sl ∧ sl < ins.length ∨ kd = 2 ∧ mayB tx = true) := by rintro (⟨h, _⟩ | ⟨h, _⟩); exact h1 h; exact h2 h
          rw [if_neg g1, if_neg (by rintro ⟨h, _⟩; exact h3 h)] at hn0 ⊢
          by_cases hmt : kd = 4 ∧ sgB moS tx = true
          · exact ⟨if_pos hmt, hmt.2, hmt.1⟩
          · rw [if_neg hmt] at hn0
            exact absurd (by decide) hn0
        obtain ⟨hz1, hz2, rfl⟩ := hz
        rw [hz1] at hdp hn1
        obtain ⟨p, a, rfl⟩ : ∃ p a, st = p ++ [a] := by
          rcases snoc_cases st with rfl | h
          · simp at hn1
          · exact h
        have hL : (p ++ [a]).length = p.length + 1 := by simp
        have e1 : IntKind.i64.wrap ((((p ++ [a]).length : Nat) : Int) - 1) = ((p.length : Nat) : Int) := by rw [hL]; exact i64n (by omega) (by omega)
        have e1n : (IntKind.i64.wrap ((((p ++ [a]).length : Nat) : Int) - 1)).toNat = p.length := by rw [e1, Int.toNat_natCast]
        have x1 : ((p ++ [a]).map sD)[(IntKind.i64.wrap ((((p ++ [a]).length : Nat) : Int) - 1)).toNat * 1]? = some (sD a) := by rw [e1, Int.toNat_natCast, Nat.mul_one]; simp
        have ma := hm a (by simp)
        have hD := rsmo_runs hz2 ma
        have hsm := smo_may tx ma
        have ho' : oneC ins k ops [] = oneC ins k (ops.drop (i + 1)) (p ++ [smo tx a]) := by
          rw [ho]
          dsimp only
          rw [if_neg (by decide), if_neg (by decide), if_neg (by decide), List.dropLast_concat]
          simp
        generalize smo tx a = r at *
        have u1 : ((((4 : Int), sl), tx).1.1 == 1) = false := rfl
        have u2 : ((((4 : Int), sl), tx).1.1 == 3) = false := rfl
        have u3 : ((((4 : Int), sl), tx).1.1 == 4) = true := rfl
        ((conv => whnf); repeat (refine Gq ?_; (conv => whnf)))
        refine Lt t4 ?_
        ((conv => whnf); repeat (refine Gq ?_; (conv => whnf)))
        refine ⟨by omega, by omega, ?_⟩
        ((conv => whnf); repeat (refine Gq ?_; (conv => whnf)))
        refine fm_ld opC_len hx ?_
        ((conv => whnf); repeat (refine Gq ?_; (conv => whnf)))
        refine litE u1 ?_
        ((conv => whnf); repeat (refine Gq ?_; (conv => whnf)))
        refine litE u2 ?_
        ((conv => whnf); repeat (refine Gq ?_; (conv => whnf)))
        refine litE u3 ?_
        ((conv => whnf); repeat (refine Gq ?_; (conv => whnf)))
        (refine And.intro (by decide +kernel) ?_; apply Exists.intro; apply And.intro; focus ((repeat' ((conv => whnf); first | exact trivial | refine Wo ?_ | refine Lt (by decide) ?_ | refine Lf (by decide) ?_ | refine Cl (by decide) ?_ | refine Cr (by decide) ?_ | refine Both.mk ?_ ?_ | (first | exact Wk.frc (keep := [0, 1, 2, 3, 4, 5, 6, 7, 8, 9, 15, 29, 30, 49, 61, 83, 101]) (N := 112) (by (conv => whnf); first | done | exact rfl) | refine And.intro (show (0 : Int) ≤ IntKind.i64.wrap (((p ++ [a]).length : Int) - 1) by rw [e1]; omega) ?_ | refine And.intro (show IntKind.i64.wrap (((p ++ [a]).length : Int) - 1) < ((p ++ [a]).length : Int) by rw [e1]; omega) ?_ | refine ⟨_, x1, ?_⟩ | (refine HfA hD ?_)) | refine ⟨_, rfl, ?_⟩ | refine Mi rfl ?_ | (refine And.intro ?_ ?_))); all_goals (first | decide | rfl | assumption | omega | (dsimp only; omega) | (unfold maxLen; omega) | ((try dsimp only [maxLen]); simp only [List.length_append, List.length_cons, List.length_nil, List.length_map, List.length_range, List.length_set, List.length_replicate]; omega) | ((try dsimp only [maxLen]); simp only [IntKind.wrap_i64, IntKind.wrap_u64, List.length_append, List.length_cons, List.length_nil, List.length_map, List.length_range, List.length_set, List.length_replicate]; omega) | ((try dsimp only [maxLen]); simp only [List.length_append, List.length_cons, List.length_nil, List.length_map, List.length_range, List.length_set, List.length_replicate] at *; omega))))
        ((conv => whnf); repeat (refine Gq ?_; (conv => whnf)))
        refine ⟨by rw [e1]; omega, by rw [e1]; omega, ?_⟩
        ((conv => whnf); repeat (refine Gq ?_; (conv => whnf)))
        refine litE (show (!(((r, (0 : Int)) : ByteArray × Int).2 == 0)) = false from rfl) ?_
        ((conv => whnf); repeat (refine Gq ?_; (conv => whnf)))
        refine ⟨by rw [e1n]; unfold maxLen; omega, by rw [e1n]; dsimp only; omega, ?_⟩
        ((conv => whnf); repeat (refine Gq ?_; (conv => whnf)))
        refine ⟨by rw [e1n]; unfold maxLen; omega, by rw [e1n]; dsimp only; omega, ?_⟩
        ((conv => whnf); repeat (refine Gq ?_; (conv => whnf)))
        refine ih (i + 1, p ++ [r]) _ ⟨by dsimp only; omega, by dsimp only; omega, by dsimp only; rw [List.length_append, List.length_singleton]; omega, fun b' hb => ?_, ?_, ho'⟩ ?_
        · rcases List.mem_append.1 hb with h | h
          · exact hm b' (by simp [h])
          · rw [List.mem_singleton.1 h]; exact hsm
        · dsimp only
          rw [List.length_append, List.length_singleton, ← hdp]
          congr 1
          rw [hL]
          omega
        dsimp only
        unfold rmQ
        (refine Wk.pin [0, 7] _ _ ?_ ?_ rfl rfl (by decide) rfl rfl <;> (repeat' first | exact trivial | rfl | (refine And.intro ?_ ?_)))
        · exact inE (i64n (n := i + 1) (by omega) (by omega))
        · exact arE (by rw [e1n]; simp) (by rw [e1n]; simp)
    · have t4 : decide ((i : Int) < (ops.length : Int)) = false := by rw [decide_eq_false_iff_not]; omega
      rw [List.drop_eq_nil_of_le (by omega)] at hdp ho
      have h1 : st.length = 1 := by have := Option.some.inj hdp; omega
      obtain ⟨y, rfl⟩ := List.length_eq_one_iff.1 h1
      rw [ho]
      have g0 : ([y].map sD)[(0 : Int).toNat * 1]? = some (sD y) := rfl
      ((conv => whnf); repeat (refine Gq ?_; (conv => whnf)))
      refine litE t4 ?_
      ((conv => whnf); repeat (refine Gq ?_; (conv => whnf)))
      refine ⟨by decide, by simp, ?_⟩
      ((conv => whnf); repeat (refine Gq ?_; (conv => whnf)))
      exact TeA
  · refine (Wk.virt 4 9 1 rfl (show 4 < 112 by decide)).trans ?_
    unfold rmQ
    (refine Wk.to _ _ ?_ ?_ <;> (repeat' first | exact trivial | rfl | (refine And.intro ?_ ?_)))
end Go.Proofs.YtkhgpnbhnipndaaGreatDoor.Am
end
section
/- The document's codes: Step. -/
namespace Go.Proofs.YtkhgpnbhnipndaaGreatDoor.Am
open Go Go.RowKit Go.Proofs.YtkhgpnbhnipndaaGreatDoor.Sh
set_option linter.unusedVariables false
set_option linter.unusedSimpArgs false
set_option maxRecDepth 100000
set_option maxHeartbeats 8000000
section
variable {ops : List OpL} {fold acc x : ByteArray} {ins : List ValL} {n k : Int} {out : List ByteArray}
theorem rstep_done (hd : n ≤ k) : Runs Tryz.prog 22 [frE ops fold ins n k out acc] (.tup [frE ops fold ins n k out acc, iD 0]) := by
  have t1 : decide (k ≥ n) = true := decide_eq_true hd
  refine Runs.wp Am.hT Am.hm Tryz.func22 rfl (by decide) ⟨[(6, .first 0 (.first 2 (.first 4 (.first 6 (.first 10 (.first 13 (.ld2 1 [15, 17] [31] (.ld2 3 [15, 17] [31] (.ld2 5 [15, 17] [31] (.ld2 7 [8, 15, 17] [31] (.first 8 (.ld2 11 [12, 15, 17] [31] (.ld2 14 [15, 17] [31] (.alt 9 (.alt 12 (.first 15 (.alt 16 (.alt 17 .done .nil) .nil)) (.alt 16 (.alt 12 (.first 15 (.alt 17 .done .nil)) .nil) .nil)) (.alt 16 (.alt 9 (.alt 12 (.first 15 (.alt 17 .done .nil)) .nil) .nil) .nil)))))))))))))))], [0, 1, 2, 3, 4, 5, 6, 7, 8, 13, 21, 43, 53, 65], 72⟩ ?_; ((conv => whnf); repeat (refine Gq ?_; (conv => whnf)))
  refine litE t1 ?_
  ((conv => whnf); repeat (refine Gq ?_; (conv => whnf)))
  exact TeA
theorem rstep_err {e : Int} (hd : ¬ n ≤ k) (he : e ≠ 0) (h3 : Runs Tryz.prog 59 [frE ops fold ins n k out acc] (.tup [sD x, iD e])) : Runs Tryz.prog 22 [frE ops fold ins n k out acc] (.tup [frE ops fold ins n k out acc, iD e]) := by
  have t1 : decide (k ≥ n) = false := decide_eq_false hd
  have t2 : (!(e == 0)) = true := by simpa using he
  refine Runs.wp Am.hT Am.hm Tryz.func22 rfl (by decide) ⟨[(6, .first 0 (.first 2 (.first 4 (.first 6 (.first 10 (.first 13 (.ld2 1 [15, 17] [31] (.ld2 3 [15, 17] [31] (.ld2 5 [15, 17] [31] (.ld2 7 [8, 15, 17] [31] (.first 8 (.ld2 11 [12, 15, 17] [31] (.ld2 14 [15, 17] [31] (.alt 9 (.alt 12 (.first 15 (.alt 16 (.alt 17 .done .nil) .nil)) (.alt 16 (.alt 12 (.first 15 (.alt 17 .done .nil)) .nil) .nil)) (.alt 16 (.alt 9 (.alt 12 (.first 15 (.alt 17 .done .nil)) .nil) .nil) .nil)))))))))))))))], [0, 1, 2, 3, 4, 5, 6, 7, 8, 13, 21, 43, 53, 65], 72⟩ ?_; ((conv => whnf); repeat (refine Gq ?_; (conv => whnf)))
  refine litE t1 ?_
  ((conv => whnf); repeat (refine Gq ?_; (conv => whnf)))
  ((conv => whnf); (refine HrA h3 ?_); ((conv => whnf); repeat (refine Gq ?_; (conv => whnf))))
  refine litE t2 ?_
  ((conv => whnf); repeat (refine Gq ?_; (conv => whnf)))
  exact TeA
theorem tel_to {a r r' : D} (e : r = r') (h : Tel a r') : Tel a r := e ▸ h
theorem frcT_mono {t : Nat → V} : ∀ {l : List Nat} {K K' : List (Nat × V) → Prop}, (∀ x, K x → K' x) → frcT t l K → frcT t l K'
  | [], K, K', h, hk => h _ hk
  | i :: l, K, K', h, hk => by
    unfold frcT at hk ⊢
    rw [fV_iff] at hk ⊢
    split at hk
    · exact frcT_mono h hk
    · exact frcT_mono h hk
    · rename_i h1 h2
      exact frcT_mono (fun x hx => h _ hx) hk
theorem frcH_mono {h : Hp} : ∀ {b : Nat} {acc : List (Option Ob)} {K K' : List (Option Ob) → Prop}, (∀ x, K x → K' x) → frcH h b acc K → frcH h b acc K'
  | 0, acc, K, K', hh, hk => hh _ hk
  | b + 1, acc, K, K', hh, hk => by
    unfold frcH at hk ⊢
    rw [fO_iff] at hk ⊢
    exact frcH_mono hh hk
theorem frcP_to {keep : List Nat} {N : Nat} {s S1 : St} {K : St → Prop} (h : frcP keep N s fun x => x = S1) (k : K S1) : frcP keep N s K := by
  unfold frcP at h ⊢
  replace h := chk_iff.1 h
  refine chk_iff.2 ⟨h.1, ?_⟩
  have h2 := h.2
  rw [fN_iff] at h2 ⊢
  refine frcT_mono (fun tl h3 => ?_) h2
  refine frcH_mono (fun hl h4 => ?_) h3
  rw [fN_iff] at h4 ⊢
  rw [h4]
  exact k
theorem regP_nil {P : Program} {T : Tab} {ops : List Oper} {s : St} {K : St → Prop} (h : K s) : regP P T ops [] s K := h
theorem wpP_cond {P : Program} {T : Tab} {rd : Bool} {pl : Plans} {x : Operand} {c d : Code} {s : St} {Q : Exit → St → Prop} (h : condP (s.ev x) (wpP P T rd pl c s Q) (wpP P T rd pl d s Q)) : wpP P T rd pl (.cond x c d) s Q := ⟨s, Wk.refl s, h⟩
theorem condP_f {A B : Prop} {x : V} (h : x = .d (.v (.bool false))) (k : B) : condP x A B := by subst h; exact ⟨(fun h => nomatch h), fun _ => k⟩
theorem condP_t {A B : Prop} {x : V} (h : x = .d (.v (.bool true))) (k : A) : condP x A B := by subst h; exact ⟨fun _ => k, (fun h => nomatch h)⟩
noncomputable def rsQ (ops : List OpL) (fold acc x : ByteArray) (ins : List ValL) (n k : Int) (out : List ByteArray) : St :=
  { t := pin [(1, .pt 0 0), (2, .pt 1 0), (4, .d (sD x)), (6, .pt 3 0)], N := 72,
    h := hpin [some (.st 39 [.d (rO ops), .d (sD fold), .d (rV ins), .d (iD n), .d (iD k), .d (rS out none), .d (sD acc)]), some (.st 39 [.imm (.slice none 0 0), .imm (.string ByteArray.empty), .imm (.slice none 0 0), .imm (.int .i64 0), .imm (.int .i64 0), .imm (.slice none 0 0), .imm (.string ByteArray.empty)]), some (.ar 9 1 (0 + out.length) ([] ++ out.map sD)),
      some (.st 39 [.d (rO ops), .d (sD fold), .d (rV ins), .d (iD n), .d (iD (IntKind.i64.wrap (k + 1))), .bs 2, .d (sD acc)])], n := 4, lo := 0 }
theorem rstep_go {R : FrL × Int} {y : ByteArray × Int} (hd : ¬ n ≤ k) (hk : 0 ≤ k ∧ k < 9223372036854775807) (ho : out.length ≤ 1000000) (h3 : Runs Tryz.prog 59 [frE ops fold ins n k out acc] (.tup [sD x, iD 0]))
    (h4 : fold ≠ ByteArray.empty → 0 < k → Runs Tryz.prog 60 [sD fold, sD acc, sD x] (.tup [sD y.1, iD y.2]))
    (hR : R = if fold = ByteArray.empty then (⟨ops, fold, ins, n, k + 1, out ++ [x], acc⟩, 0) else if 0 < k then (if y.2 = 0 then (⟨ops, fold, ins, n, k + 1, out, y.1⟩, 0) else (⟨ops, fold, ins, n, k, out, acc⟩, y.2)) else (⟨ops, fold, ins, n, k + 1, out, x⟩, 0)) :
    Runs Tryz.prog 22 [frE ops fold ins n k out acc] (.tup [frD R.1, iD R.2]) := by
  have t1 : decide (k ≥ n) = false := decide_eq_false hd
  refine Runs.wp Am.hT Am.hm Tryz.func22 rfl (by decide) ⟨[(6, .first 0 (.first 2 (.first 4 (.first 6 (.first 10 (.first 13 (.ld2 1 [15, 17] [31] (.ld2 3 [15, 17] [31] (.ld2 5 [15, 17] [31] (.ld2 7 [8, 15, 17] [31] (.first 8 (.ld2 11 [12, 15, 17] [31] (.ld2 14 [15, 17] [31] (.alt 9 (.alt 12 (.first 15 (.alt 16 (.alt 17 .done .nil) .nil)) (.alt 16 (.alt 12 (.first 15 (.alt 17 .done .nil)) .nil) .nil)) (.alt 16 (.alt 9 (.alt 12 (.first 15 (.alt 17 .done .nil)) .nil) .nil) .nil)))))))))))))))], [0, 1, 2, 3, 4, 5, 6, 7, 8, 13, 21, 43, 53, 65], 72⟩ ?_; ((conv => whnf); repeat (refine Gq ?_; (conv => whnf)))
  refine litE t1 ?_
  ((conv => whnf); repeat (refine Gq ?_; (conv => whnf)))
  ((conv => whnf); (refine HrA h3 ?_); ((conv => whnf); repeat (refine Gq ?_; (conv => whnf))))
  refine And.intro (by decide +kernel) ?_
  refine ⟨rsQ ops fold acc x ins n k out, ?_, ?_⟩
  · (repeat' ((conv => whnf); first | exact trivial | refine Wo ?_ | refine Lt (by decide) ?_ | refine Lf (by decide) ?_ | refine Cl (by decide) ?_ | refine Cr (by decide) ?_ | refine Both.mk ?_ ?_ | (first | ((refine Wk.pin [0, 1, 3, 4] _ _ ?_ ?_ rfl rfl (by decide) rfl rfl <;> (repeat' first | exact trivial | rfl | (refine And.intro ?_ ?_))); done) | ((refine Wk.pin [0, 1, 4, 3] _ _ ?_ ?_ rfl rfl (by decide) rfl rfl <;> (repeat' first | exact trivial | rfl | (refine And.intro ?_ ?_))); done) | ((refine Wk.pin [0, 1, 4, 2] _ _ ?_ ?_ rfl rfl (by decide) rfl rfl <;> (repeat' first | exact trivial | rfl | (refine And.intro ?_ ?_))); done) | refine ⟨show 0 + out.length ≤ maxLen by unfold maxLen; omega, show (0 + out.length) * 16 ≤ 140737488355328 by omega, ?_⟩) | refine ⟨_, rfl, ?_⟩ | refine Mi rfl ?_ | (refine And.intro ?_ ?_)))
  unfold rsQ
  ((conv => whnf); repeat (refine Gq ?_; (conv => whnf)))
  by_cases hf : fold = ByteArray.empty
  · have t3 : (fold.toList == ByteArray.toList ⟨#[]⟩) = true := by rw [hf]; rw [beqB]; rfl
    refine litE t3 ?_
    ((conv => whnf); repeat (refine Gq ?_; (conv => whnf)))
    refine ⟨by unfold maxLen; omega, by dsimp only; omega, ?_⟩
    ((conv => whnf); repeat (refine Gq ?_; (conv => whnf)))
    refine tel_to (by rw [hR, if_pos hf]) ?_
    ((conv => whnf); ((repeat ((conv => arg 1; whnf); first | exact Tels.nil | apply Tels.cons | apply Tel.aggs | apply Tel.tups | exact Tel.refl _ | exact Tel.nil1 _ | exact Tel.cap _ _ _ _ | exact telZ (i64w (by omega) (by omega)) | exact Tel.eq (dslE (by simp) (by simp)))); done))
  · have t3 : (fold.toList == ByteArray.toList ⟨#[]⟩) = false := by rw [beqB]; exact decide_eq_false hf
    rw [if_neg hf] at hR
    refine litE t3 ?_
    ((conv => whnf); repeat (refine Gq ?_; (conv => whnf)))
    by_cases hk0 : 0 < k
    · have t4 : decide (k > 0) = true := decide_eq_true hk0
      have h4' := h4 hf hk0
      rw [if_pos hk0] at hR
      refine litE t4 ?_
      ((conv => whnf); repeat (refine Gq ?_; (conv => whnf)))
      ((conv => whnf); (refine HrA h4' ?_); ((conv => whnf); repeat (refine Gq ?_; (conv => whnf))))
      by_cases hy : y.2 = 0
      · have t5 : (!(y.2 == 0)) = false := by rw [hy]; rfl
        refine litE t5 ?_
        refine regP_nil (frcP_to (by (conv => whnf); first | done | exact rfl) ?_)
        refine wpP_cond ?_
        refine condP_f rfl ?_
        ((conv => whnf); repeat (refine Gq ?_; (conv => whnf)))
        refine tel_to (by rw [hR, if_pos hy]) ?_
        ((conv => whnf); ((repeat ((conv => arg 1; whnf); first | exact Tels.nil | apply Tels.cons | apply Tel.aggs | apply Tel.tups | exact Tel.refl _ | exact Tel.nil1 _ | exact Tel.cap _ _ _ _ | exact telZ (i64w (by omega) (by omega)) | exact Tel.eq (dslE (by simp) (by simp)))); done))
      · have t5 : (!(y.2 == 0)) = true := by simpa using hy
        refine litE t5 ?_
        refine regP_nil (frcP_to (by (conv => whnf); first | done | exact rfl) ?_)
        refine wpP_cond ?_
        refine condP_t rfl ?_
        ((conv => whnf); repeat (refine Gq ?_; (conv => whnf)))
        refine tel_to (by rw [hR, if_neg hy]) ?_
        exact TeA
    · have t4 : decide (k > 0) = false := decide_eq_false hk0
      rw [if_neg hk0] at hR
      refine litE t4 ?_
      ((conv => whnf); repeat (refine Gq ?_; (conv => whnf)))
      refine tel_to (by rw [hR]) ?_
      ((conv => whnf); ((repeat ((conv => arg 1; whnf); first | exact Tels.nil | apply Tels.cons | apply Tel.aggs | apply Tel.tups | exact Tel.refl _ | exact Tel.nil1 _ | exact Tel.cap _ _ _ _ | exact telZ (i64w (by omega) (by omega)) | exact Tel.eq (dslE (by simp) (by simp)))); done))
end
end Go.Proofs.YtkhgpnbhnipndaaGreatDoor.Am
end
section
/- The document's codes: Val. -/
namespace Go.Proofs.YtkhgpnbhnipndaaGreatDoor.Am
open Go Go.RowKit Go.Proofs.YtkhgpnbhnipndaaGreatDoor.Sh
set_option linter.unusedVariables false
set_option linter.unusedSimpArgs false
set_option maxRecDepth 100000
set_option maxHeartbeats 8000000
theorem rval_runs (f : FrL) (hi : f.ins.length ≤ 100000000) (ho : f.out.length ≤ 100000000) : Runs Tryz.prog 20 [frD f] (.tup [vD2 (valF f).1, bD (valF f).2]) := by
  obtain ⟨ops, fold, ins, n, k, out, acc⟩ := f
  show Runs Tryz.prog _ [frE ops fold ins n k out acc] _
  have t3 := emp_s fold
  unfold valF
  dsimp only at *
  by_cases hk : k < n
  · have t1 : decide (k < n) = true := decide_eq_true hk
    rw [if_pos hk]
    refine Runs.wp Am.hT Am.hm Tryz.func20 rfl (by decide) ⟨[], [0, 1, 2, 3, 4, 9, 14, 23, 33], 44⟩ ?_; ((conv => whnf); repeat (refine Gq ?_; (conv => whnf)))
    refine litE t1 ?_
    ((conv => whnf); repeat (refine Gq ?_; (conv => whnf)))
    exact TeA
  · have t1 : decide (k < n) = false := decide_eq_false hk
    rw [if_neg hk]
    by_cases hf : fold = ByteArray.empty
    · rw [decide_eq_true hf] at t3
      rw [if_neg (by simp [hf])]
      refine Runs.wp Am.hT Am.hm Tryz.func20 rfl (by decide) ⟨[], [0, 1, 2, 3, 4, 9, 14, 23, 33], 44⟩ ?_; ((conv => whnf); repeat (refine Gq ?_; (conv => whnf)))
      refine litE t1 ?_
      ((conv => whnf); repeat (refine Gq ?_; (conv => whnf)))
      refine litE t3 ?_
      ((conv => whnf); repeat (refine Gq ?_; (conv => whnf)))
      refine loop_ind (fun j (i : Nat) => i + j = ins.length + 1 ∧ i ≤ ins.length ∧ (ins.any fun v => !decide (v.1 = [])) = (ins.drop i).any fun v => !decide (v.1 = [])) (fun i => { t := pin [(1, .pt 0 0), (2, .pt 1 0), (4, .d (iD i))], N := 44, h := hpin [some (.st 39 [.d (rO ops), .d (sD fold), .d (rV ins), .d (iD n), .d (iD k), .d (rS out none), .d (sD acc)]), some (.st 47 [.imm (.slice none 0 0), .imm (.slice none 0 0)])], n := 2, lo := 0 }) (fun i h => by omega) ?_ (ins.length + 1) 0 ⟨by omega, by omega, rfl⟩ _ ?_
      · rintro j i R ih ⟨hj, hi', ha⟩
        by_cases hlt : i < ins.length
        · have t2 : decide ((i : Int) < (ins.length : Int)) = true := by rw [decide_eq_true_iff]; omega
          have hx : ins[i]? = some ins[i] := List.getElem?_eq_getElem hlt
          have g0 : (ins.flatMap valC)[(i : Int).toNat * 2 + 0]? = some (rI ins[i].1 none) := (fm_get valC_len (i := (i : Int).toNat) (j := 0) (by rw [Int.toNat_natCast]; exact hx) (by decide)).trans rfl
          have t4 := pos_b ins[i].1
          rw [List.drop_eq_getElem_cons hlt, List.any_cons] at ha
          by_cases h0 : ins[i].1 = []
          · rw [decide_eq_true h0] at t4 ha
            rw [Bool.not_true, Bool.false_or] at ha
            ((conv => whnf); repeat (refine Gq ?_; (conv => whnf)))
            refine litE t2 ?_
            ((conv => whnf); repeat (refine Gq ?_; (conv => whnf)))
            refine ⟨by omega, by omega, ?_⟩
            ((conv => whnf); repeat (refine Gq ?_; (conv => whnf)))
            refine ⟨_, g0, ?_⟩
            ((conv => whnf); repeat (refine Gq ?_; (conv => whnf)))
            refine litE t4 ?_
            ((conv => whnf); repeat (refine Gq ?_; (conv => whnf)))
            refine ih (i + 1) _ ⟨by omega, by omega, ha⟩ ?_
            (refine Wk.to _ _ ?_ ?_ <;> (repeat' first | exact trivial | rfl | (refine And.intro ?_ ?_)))
            exact inE (i64n (n := i + 1) (by omega) (by omega))
          · rw [decide_eq_false h0] at t4 ha
            rw [Bool.not_false, Bool.true_or] at ha
            rw [if_pos ha]
            ((conv => whnf); repeat (refine Gq ?_; (conv => whnf)))
            refine litE t2 ?_
            ((conv => whnf); repeat (refine Gq ?_; (conv => whnf)))
            refine ⟨by omega, by omega, ?_⟩
            ((conv => whnf); repeat (refine Gq ?_; (conv => whnf)))
            refine ⟨_, g0, ?_⟩
            ((conv => whnf); repeat (refine Gq ?_; (conv => whnf)))
            refine litE t4 ?_
            ((conv => whnf); repeat (refine Gq ?_; (conv => whnf)))
            exact TeA
        · have t2 : decide ((i : Int) < (ins.length : Int)) = false := by rw [decide_eq_false_iff_not]; omega
          rw [List.drop_eq_nil_of_le (by omega)] at ha
          rw [if_neg (by rw [ha]; simp)]
          ((conv => whnf); repeat (refine Gq ?_; (conv => whnf)))
          refine litE t2 ?_
          ((conv => whnf); repeat (refine Gq ?_; (conv => whnf)))
          exact TeA
      · (refine Wk.to _ _ ?_ ?_ <;> (repeat' first | exact trivial | rfl | (refine And.intro ?_ ?_)))
    · rw [decide_eq_false hf] at t3
      rw [if_pos hf]
      refine Runs.wp Am.hT Am.hm Tryz.func20 rfl (by decide) ⟨[], [0, 1, 2, 3, 4, 9, 14, 23, 33], 44⟩ ?_; ((conv => whnf); repeat (refine Gq ?_; (conv => whnf)))
      refine litE t1 ?_
      ((conv => whnf); repeat (refine Gq ?_; (conv => whnf)))
      refine litE t3 ?_
      ((conv => whnf); repeat (refine Gq ?_; (conv => whnf)))
      exact TeA
end Go.Proofs.YtkhgpnbhnipndaaGreatDoor.Am
end
section
/- The document's codes: the rows of a frame that has begun. -/
namespace Go.Proofs.YtkhgpnbhnipndaaGreatDoor.Am
open Go Go.RowKit Go.Proofs.YtkhgpnbhnipndaaGreatDoor.Sh
set_option linter.unusedVariables false
set_option linter.unusedSimpArgs false
theorem rows_ok {ops : List OpL} {fold : ByteArray} {ins : List ValL} (hi : ins.length ≤ 100000000) (hb : ∀ v ∈ ins, v.1.length ≤ 100000000 ∧ v.2.length ≤ 100000000) (h : (startF ops fold ins).2 = 0) {k : Nat} (hk : (k : Int) < (startF ops fold ins).1.n) :
    ∀ v ∈ ins, v.1.length = 1 ∧ k < v.2.length ∨ v.1.length ≠ 1 ∧ v.2.length = 1 := fun v hv => by
  obtain ⟨ok, e1, e2, e3, e4, e5, e6, e7, n, e8, e9, e10, e11⟩ := start_ok hi hb h
  rw [e10] at hk
  have hg := e7 v hv
  rcases e11 v hv with h0 | h0
  · have hz := good_size hg
    rw [h0, show sizeS [] = (1, 0) by decide] at hz
    have := congrArg Prod.fst hz
    simp only at this
    refine .inr ⟨by rw [h0]; decide, by omega⟩
  · have h1 := good_one hg (by rw [h0]; rfl)
    rw [h0] at h1
    have h2 : n = (v.2.length : Int) := h1
    refine .inl ⟨by rw [h0]; rfl, ?_⟩
    split at hk <;> omega
end Go.Proofs.YtkhgpnbhnipndaaGreatDoor.Am
end
section
/- The document's codes: a step, told whole; FrameRuns. -/
namespace Go.Proofs.YtkhgpnbhnipndaaGreatDoor.Am
open Go Go.RowKit Go.Proofs.YtkhgpnbhnipndaaGreatDoor.Sh
set_option linter.unusedVariables false
set_option linter.unusedSimpArgs false
set_option maxRecDepth 100000
set_option maxHeartbeats 8000000
/-- the rows are as long as there are elements to look at -/
def RowN (f : FrL) : Prop := ∀ v ∈ f.ins, v.1.length = 1 ∧ f.n ≤ (v.2.length : Int) ∨ v.1.length ≠ 1 ∧ v.2.length = 1
theorem rstep_full {f : FrL} (h : FrOk f) (hN : RowN f) : Runs Tryz.prog 22 [frD f] (.tup [frD (stepF f).1, iD (stepF f).2]) := by
  obtain ⟨o1, o2, o3, o4⟩ := mayC_parts h.mc
  have hfi := h.fine
  have hol := h.outl
  by_cases hd : f.n ≤ f.k
  · have e : stepF f = (f, 0) := by unfold stepF; rw [if_pos (.inl hd)]
    rw [e]
    exact rstep_done hd
  · obtain ⟨k, hk⟩ := Int.eq_ofNat_of_zero_le h.k0
    have hkn := h.kn
    have hn2 := h.n2
    have h1 := rmade_runs (fold := f.fold) (acc := f.acc) (n := f.n) (out := f.out) (k := k) o4 o2 h.il h.ok (by omega) (fun v hv => (hN v hv).imp (fun ⟨a, b⟩ => ⟨a, by omega⟩) id)
    have hm := oneC_may (k := k) h.ok f.ops [] o4 (fun b hb => by simp at hb)
    have es : stepF f = (let x := oneC f.ins k f.ops []
      if x.2 = 0 then
        if f.fold = ByteArray.empty then ({ f with out := f.out ++ [x.1], k := f.k + 1 }, 0)
        else if 0 < f.k then
          let y := sd f.fold f.acc x.1
          if y.2 = 0 then ({ f with acc := y.1, k := f.k + 1 }, 0) else (f, y.2)
        else ({ f with acc := x.1, k := f.k + 1 }, 0)
      else (f, x.2)) := by
      unfold stepF
      rw [if_neg (by rintro (h | h); exact hd h; rw [hfi] at h; cases h), hk, Int.toNat_natCast]
    dsimp only at es
    rw [← show f.k = (k : Int) from hk] at h1
    generalize oneC f.ins k f.ops [] = x at *
    obtain ⟨x, e⟩ := x
    dsimp only at *
    by_cases h0 : e = 0
    · subst h0
      rw [if_pos rfl] at es
      have hmx := hm rfl
      exact rstep_go (y := sd f.fold f.acc x) hd (by omega) (by omega) h1 (fun hf hk0 => rsd_runs (h.dyad hf) (h.ac hf hk0) hmx) es
    · rw [if_neg h0] at es
      rw [es]
      exact rstep_err hd h0 h1
theorem RowN.step {f : FrL} (h : FrOk f) (hN : RowN f) : RowN (stepF f).1 := by
  obtain ⟨_, _, _, _, _, e1, e2, _⟩ := step_full h
  intro v hv
  rw [e1] at hv
  rw [e2]
  exact hN v hv
/-- so many steps -/
def stepsF : Nat → FrL → FrL
  | 0, f => f
  | m + 1, f => (stepF (stepsF m f)).1
theorem steps_ok {f : FrL} (h : FrOk f) (hN : RowN f) : ∀ m, FrOk (stepsF m f) ∧ RowN (stepsF m f) ∧ (stepsF m f).n = f.n
  | 0 => ⟨h, hN, rfl⟩
  | m + 1 => by
    obtain ⟨h1, h2, h3⟩ := steps_ok h hN m
    obtain ⟨_, q2, _, _, _, _, q7, _⟩ := step_full h1
    exact ⟨q2, RowN.step h1 h2, q7.trans h3⟩
end Go.Proofs.YtkhgpnbhnipndaaGreatDoor.Am
end
section
/- FrameRuns, walked. -/
namespace Go.Proofs.YtkhgpnbhnipndaaGreatDoor.Am
open Go Go.RowKit Go.Proofs.YtkhgpnbhnipndaaGreatDoor.Sh
set_option linter.unusedVariables false
set_option linter.unusedSimpArgs false
set_option maxRecDepth 100000
set_option maxHeartbeats 8000000
abbrev frV (g : FrL) : List V := [.d (rO g.ops), .d (sD g.fold), .d (rV g.ins), .d (iD g.n), .d (iD g.k), .d (rS g.out none), .d (sD g.acc)]
theorem val_bd {g : FrL} (h : FrOk g) : (valF g).1.1.length ≤ 1 ∧ (valF g).1.2.length ≤ 4096 := by
  have := h.outl
  unfold valF
  split
  · exact ⟨by decide, by decide⟩
  · split
    · exact ⟨Nat.zero_le _, by simp⟩
    · split
      · exact ⟨Nat.le_refl _, this⟩
      · exact ⟨Nat.zero_le _, this⟩
theorem few20_txt {l : List OpL} {ins : List ValL} (h : few20 l ins = true) : (∀ o ∈ l, o.2.size ≤ 120) ∧ ∀ v ∈ ins, ∀ b ∈ v.2, b.size ≤ 120 := by
  unfold few20 at h
  simp only [Bool.and_eq_true, decide_eq_true_eq, List.all_eq_true] at h
  obtain ⟨h1, h2, h3, h4⟩ := h
  rw [List.take_of_length_le (by omega)] at h1 h2
  exact ⟨h2, fun v hv => (few_of (h1 v hv).1).2.2⟩
end Go.Proofs.YtkhgpnbhnipndaaGreatDoor.Am
end
section
/- FrameSteps, walked. -/
namespace Go.Proofs.YtkhgpnbhnipndaaGreatDoor.Am
open Go Go.RowKit Go.Proofs.YtkhgpnbhnipndaaGreatDoor.Sh
set_option linter.unusedVariables false
set_option linter.unusedSimpArgs false
set_option maxRecDepth 100000
set_option maxHeartbeats 8000000
noncomputable def smQ (g : FrL) (tl : List (Nat × V)) : St :=
  { t := pin ([(2, .pt 0 0), (3, .pt 1 0), (5, .pt 2 0)] ++ tl), N := 117,
    h := hpin [some (.st 33 (frV g)), some (.st 39 (frV g)), some (.st 33 (frV g))], n := 3, lo := 0 }
theorem lsame_runs (g : FrL) (ho : g.ops.length ≤ 100000000) (hi : g.ins.length ≤ 100000000) (hb : ∀ v ∈ g.ins, v.1.length ≤ 100000000 ∧ v.2.length ≤ 100000000) (hu : g.out.length ≤ 100000000) : Runs Tryz.prog 18 [frD g, frD g] (bD true) := by
  have m := made_runs g.ops g.fold ho
  have so := rsameV_runs [] [] g.out g.out (by simp) (by omega)
  rw [decide_eq_true ⟨rfl, rfl⟩] at so
  have u1 : (!(((g.ops.length : Nat) : Int) == ((g.ops.length : Nat) : Int))) = false := by simp
  have u2 : (!(g.fold.toList == g.fold.toList)) = false := by simp
  have u3 : (!(g.n == g.n)) = false := by simp
  have u4 : (!(g.k == g.k)) = false := by simp
  have u5 : (!(g.acc.toList == g.acc.toList)) = false := by simp
  have u6 : (!(((g.ins.length : Nat) : Int) == ((g.ins.length : Nat) : Int))) = false := by simp
  refine Runs.wp Am.hT Am.hm Tryz.func18 rfl (by decide) ⟨[(1, .kc (.first 0 (.first 3 (.first 5 (.first 7 (.first 9 (.first 11 (.ld2 1 [2, 13, 15] [] (.ld2 4 [13, 15] [] (.ld2 6 [13, 15] [] (.ld2 8 [13, 15] [] (.ld2 10 [13, 15] [] (.ld2 12 [13, 15] [] (.alt 2 (.first 13 (.alt 14 (.alt 15 .done .nil) .nil)) (.alt 14 (.alt 2 (.first 13 (.alt 15 .done .nil)) .nil) .nil))))))))))))))), (7, .first 0 (.first 1 (.first 3 (.first 6 (.first 7 (.first 9 (.load 2 [4, 5, 12] (.first 4 (.load 5 [12] (.load 8 [10, 11, 12] (.first 10 (.load 11 [12] (.first 12 .done))))))))))))), (12, .first 0 (.first 2 (.first 5 (.first 7 (.load 1 [3, 4, 10, 11] (.first 3 (.load 4 [10, 11] (.load 6 [8, 9, 10, 11] (.first 8 (.load 9 [10, 11] (.alt 10 (.first 11 .done) .nil)))))))))))], [0, 1, 2, 3, 4, 5, 6, 7, 69, 75, 90, 95, 109], 117⟩ ?_; ((conv => whnf); repeat (refine Gq ?_; (conv => whnf)))
  (refine And.intro (by decide +kernel) ?_; apply Exists.intro; apply And.intro; focus ((repeat' ((conv => whnf); first | exact trivial | refine Wo ?_ | refine Lt (by decide) ?_ | refine Lf (by decide) ?_ | refine Cl (by decide) ?_ | refine Cr (by decide) ?_ | refine Both.mk ?_ ?_ | (first | exact Wk.frc (keep := [0, 1, 2, 3, 4, 5, 6, 7, 69, 75, 90, 95, 109]) (N := 117) (by (conv => whnf); first | done | exact rfl) | (refine HcB.runs m ?_ ?_; (focus ((repeat ((conv => arg 1; whnf); first | exact Tels.nil | apply Tels.cons | apply Tel.aggs | apply Tel.tups | exact Tel.refl _ | exact Tel.nil1 _ | exact Tel.cap _ _ _ _)); done)))) | refine ⟨_, rfl, ?_⟩ | refine Mi rfl ?_ | (refine And.intro ?_ ?_))); all_goals (first | decide | rfl | assumption | omega | (dsimp only; omega) | (unfold maxLen; omega) | ((try dsimp only [maxLen]); simp only [List.length_append, List.length_cons, List.length_nil, List.length_map, List.length_range, List.length_set, List.length_replicate]; omega) | ((try dsimp only [maxLen]); simp only [IntKind.wrap_i64, IntKind.wrap_u64, List.length_append, List.length_cons, List.length_nil, List.length_map, List.length_range, List.length_set, List.length_replicate]; omega) | ((try dsimp only [maxLen]); simp only [List.length_append, List.length_cons, List.length_nil, List.length_map, List.length_range, List.length_set, List.length_replicate] at *; omega))))
  ((conv => whnf); repeat ((first | refine Wo ?_ | refine Lt (by decide) ?_ | refine Lf (by decide) ?_ | refine Cl (by decide) ?_ | refine Cr (by decide) ?_ | refine ⟨_, rfl, ?_⟩ | refine Mi rfl ?_ | refine litE u1 ?_ | refine litE u2 ?_ | refine litE u3 ?_ | refine litE u4 ?_ | refine litE u5 ?_ | refine litE u6 ?_ | (refine And.intro ArA ?_)); (conv => whnf)))
  refine loop_ind (fun k (i : Nat) => i + k = g.ops.length + 1 ∧ i ≤ g.ops.length) (fun i => smQ g [(6, .d (iD i))]) (fun i h => by omega) ?_ (g.ops.length + 1) 0 ⟨by omega, by omega⟩ _ ?_
  · rintro k i R ih ⟨hk, hi1⟩
    unfold smQ
    by_cases hlt : i < g.ops.length
    · have t1 : decide ((i : Int) < (g.ops.length : Int)) = true := by simpa using hlt
      have hx : g.ops[i]? = some g.ops[i] := List.getElem?_eq_getElem hlt
      have hq : (!((g.ops[i].1.1 == g.ops[i].1.1) && ((g.ops[i].1.2 == g.ops[i].1.2) && ((g.ops[i].2.toList == g.ops[i].2.toList) && true)))) = false := by simp
      ((conv => whnf); repeat ((first | refine Wo ?_ | refine Lt (by decide) ?_ | refine Lf (by decide) ?_ | refine Cl (by decide) ?_ | refine Cr (by decide) ?_ | refine ⟨_, rfl, ?_⟩ | refine Mi rfl ?_ | refine litE t1 ?_ | (refine And.intro ArA ?_)); (conv => whnf)))
      (refine And.intro (by decide +kernel) ?_; apply Exists.intro; apply And.intro; focus ((repeat' ((conv => whnf); first | exact trivial | refine Wo ?_ | refine Lt (by decide) ?_ | refine Lf (by decide) ?_ | refine Cl (by decide) ?_ | refine Cr (by decide) ?_ | refine Both.mk ?_ ?_ | (first | exact Wk.frc (keep := [0, 1, 2, 3, 4, 5, 6, 7, 69, 75, 90, 95, 109]) (N := 117) (by (conv => whnf); first | done | exact rfl) | refine ⟨show (0 : Int) ≤ (i : Int) by omega, show (i : Int) < (g.ops.length : Int) by omega, ?_⟩ | refine fm_ld opC_len hx ?_ | refine litE hq ?_) | refine ⟨_, rfl, ?_⟩ | refine Mi rfl ?_ | (refine And.intro ?_ ?_))); all_goals (first | decide | rfl | assumption | omega | (dsimp only; omega) | (unfold maxLen; omega) | ((try dsimp only [maxLen]); simp only [List.length_append, List.length_cons, List.length_nil, List.length_map, List.length_range, List.length_set, List.length_replicate]; omega) | ((try dsimp only [maxLen]); simp only [IntKind.wrap_i64, IntKind.wrap_u64, List.length_append, List.length_cons, List.length_nil, List.length_map, List.length_range, List.length_set, List.length_replicate]; omega) | ((try dsimp only [maxLen]); simp only [List.length_append, List.length_cons, List.length_nil, List.length_map, List.length_range, List.length_set, List.length_replicate] at *; omega))))
      ((conv => whnf); repeat (refine Gq ?_; (conv => whnf)))
      refine ih (i + 1) _ ⟨by omega, by omega⟩ ?_
      unfold smQ
      (refine Wk.pin [0, 1, 2] _ _ ?_ ?_ rfl rfl (by decide) rfl rfl <;> (repeat' first | exact trivial | rfl | (refine And.intro ?_ ?_)))
      exact inE (i64n (by simp) (by omega))
    · have t1 : decide ((i : Int) < (g.ops.length : Int)) = false := by simpa using hlt
      ((conv => whnf); repeat ((first | refine Wo ?_ | refine Lt (by decide) ?_ | refine Lf (by decide) ?_ | refine Cl (by decide) ?_ | refine Cr (by decide) ?_ | refine ⟨_, rfl, ?_⟩ | refine Mi rfl ?_ | refine litE t1 ?_ | (refine And.intro ArA ?_)); (conv => whnf)))
      refine loop_ind (fun k (i : Nat) => i + k = g.ins.length + 1 ∧ i ≤ g.ins.length) (fun i => smQ g [(7, .d (iD i))]) (fun i h => by omega) ?_ (g.ins.length + 1) 0 ⟨by omega, by omega⟩ _ ?_
      · rintro k2 j R2 ih2 ⟨hk2, hj1⟩
        unfold smQ
        by_cases hlt2 : j < g.ins.length
        · have t2 : decide ((j : Int) < (g.ins.length : Int)) = true := by simpa using hlt2
          have hx : g.ins[j]? = some g.ins[j] := List.getElem?_eq_getElem hlt2
          have hbv := hb _ (List.getElem_mem hlt2)
          have sv := rsameV_runs g.ins[j].1 g.ins[j].1 g.ins[j].2 g.ins[j].2 (by omega) (by omega)
          rw [decide_eq_true ⟨rfl, rfl⟩] at sv
          ((conv => whnf); repeat ((first | refine Wo ?_ | refine Lt (by decide) ?_ | refine Lf (by decide) ?_ | refine Cl (by decide) ?_ | refine Cr (by decide) ?_ | refine ⟨_, rfl, ?_⟩ | refine Mi rfl ?_ | refine litE t2 ?_ | (refine And.intro ArA ?_)); (conv => whnf)))
          (refine And.intro (by decide +kernel) ?_; apply Exists.intro; apply And.intro; focus ((repeat' ((conv => whnf); first | exact trivial | refine Wo ?_ | refine Lt (by decide) ?_ | refine Lf (by decide) ?_ | refine Cl (by decide) ?_ | refine Cr (by decide) ?_ | refine Both.mk ?_ ?_ | (first | exact Wk.frc (keep := [0, 1, 2, 3, 4, 5, 6, 7, 69, 75, 90, 95, 109]) (N := 117) (by (conv => whnf); first | done | exact rfl) | refine ⟨show (0 : Int) ≤ (j : Int) by omega, show (j : Int) < (g.ins.length : Int) by omega, ?_⟩ | refine fm_ld valC_len hx ?_ | (refine HfA sv ?_)) | refine ⟨_, rfl, ?_⟩ | refine Mi rfl ?_ | (refine And.intro ?_ ?_))); all_goals (first | decide | rfl | assumption | omega | (dsimp only; omega) | (unfold maxLen; omega) | ((try dsimp only [maxLen]); simp only [List.length_append, List.length_cons, List.length_nil, List.length_map, List.length_range, List.length_set, List.length_replicate]; omega) | ((try dsimp only [maxLen]); simp only [IntKind.wrap_i64, IntKind.wrap_u64, List.length_append, List.length_cons, List.length_nil, List.length_map, List.length_range, List.length_set, List.length_replicate]; omega) | ((try dsimp only [maxLen]); simp only [List.length_append, List.length_cons, List.length_nil, List.length_map, List.length_range, List.length_set, List.length_replicate] at *; omega))))
          ((conv => whnf); repeat (refine Gq ?_; (conv => whnf)))
          refine ih2 (j + 1) _ ⟨by omega, by omega⟩ ?_
          unfold smQ
          (refine Wk.pin [0, 1, 2] _ _ ?_ ?_ rfl rfl (by decide) rfl rfl <;> (repeat' first | exact trivial | rfl | (refine And.intro ?_ ?_)))
          exact inE (i64n (by simp) (by omega))
        · have t2 : decide ((j : Int) < (g.ins.length : Int)) = false := by simpa using hlt2
          ((conv => whnf); repeat ((first | refine Wo ?_ | refine Lt (by decide) ?_ | refine Lf (by decide) ?_ | refine Cl (by decide) ?_ | refine Cr (by decide) ?_ | refine ⟨_, rfl, ?_⟩ | refine Mi rfl ?_ | refine litE t2 ?_ | (refine HfA so ?_) | (refine And.intro ArA ?_)); (conv => whnf)))
          exact TeA
      · unfold smQ
        (refine Wk.to _ _ ?_ ?_ <;> (repeat' first | exact trivial | rfl | (refine And.intro ?_ ?_)))
  · unfold smQ
    (refine Wk.to _ _ ?_ ?_ <;> (repeat' first | exact trivial | rfl | (refine And.intro ?_ ?_)))
theorem start_bad {ops : List OpL} {fold : ByteArray} {ins : List ValL} (h : (startF ops fold ins).2 ≠ 0) : (startF ops fold ins).1 = frZ := by
  unfold startF at h ⊢
  split
  · rename_i hc
    rw [if_pos hc] at h
    split
    · rfl
    · rename_i n bad hs
      rw [hs] at h
      dsimp only at h
      split
      · rfl
      · rename_i hb
        rw [if_neg hb] at h
        split
        · rfl
        · rename_i hn
          rw [if_neg hn] at h
          exact absurd rfl h
  · rfl
section
variable {ops : List OpL} {fold : ByteArray} {ins : List ValL} {slots : Int}
theorem fsteps_no (f1 : Runs Tryz.prog 12 [cD ops fold, rV ins] (bD false)) : Runs Tryz.prog 3 [cD ops fold, rV ins, iD slots] (bD true) := by
  have f0 := fshown_runs
  refine Runs.wp Am.hT Am.hm Tryz.func3 rfl (by decide) ⟨[(6, .kc (.first 2 (.first 5 (.load 0 [1, 3, 6, 7, 8, 9, 10, 11, 12, 13, 14, 15, 16, 17, 18] (.ld2 4 [6, 7, 8, 9, 10, 11, 12, 13, 14, 15, 16, 17, 18] [] (.alt 1 (.alt 3 (.alt 6 (.first 7 (.first 8 (.first 9 (.first 10 (.first 11 (.first 12 (.first 13 (.load 14 [16, 17, 18] (.load 15 [16, 17, 18] (.alt 16 (.first 17 (.first 18 .done)) .nil)))))))))) .nil) .nil) .nil)))))), (15, .kc (.first 2 (.first 4 (.load 0 [1, 7, 8, 9, 10, 11, 12, 13, 14, 15, 16, 17, 18, 19, 20, 21, 22, 23, 24, 25, 26, 27, 28, 29] (.ld2 3 [6, 7, 8, 9, 10, 11, 12, 13, 14, 15, 16, 17, 18, 19, 20, 21, 22, 23, 24, 25, 26, 27, 28, 29] [] (.ld2 5 [6, 7, 8, 9, 10, 11, 12, 13, 14, 15, 16, 17, 18, 19, 20, 21, 22, 23, 24, 25, 26, 27, 28, 29] [] (.first 6 (.alt 1 (.first 7 (.first 8 (.first 9 (.first 10 (.first 11 (.first 12 (.first 13 (.load 14 [16, 17, 18, 19, 20, 21, 22, 23, 24, 25, 26, 27, 28, 29] (.load 15 [16, 17, 18, 19, 20, 21, 22, 23, 24, 25, 26, 27, 28, 29] (.alt 16 (.first 17 (.first 18 (.first 19 (.first 20 (.first 21 (.first 22 (.first 23 (.first 24 (.load 25 [27, 28, 29] (.load 26 [27, 28, 29] (.alt 27 (.first 28 (.first 29 .done)) .nil))))))))))) .nil)))))))))) .nil))))))))], [0, 1, 2, 3, 6, 7, 8, 9, 10, 11, 12, 13, 14, 15, 16, 17, 18, 19, 20, 25, 58, 66, 118], 122⟩ ?_; ((conv => whnf); repeat (refine Gq ?_; (conv => whnf)))
  ((conv => whnf); repeat ((first | refine Wo ?_ | refine Lt (by decide) ?_ | refine Lf (by decide) ?_ | refine Cl (by decide) ?_ | refine Cr (by decide) ?_ | refine ⟨_, rfl, ?_⟩ | refine Mi rfl ?_ | (refine HfA f0 ?_) | (refine HfA f1 ?_) | (refine And.intro ArA ?_)); (conv => whnf)))
  exact TeA
theorem fsteps_err {r : FrL} {e : Int} {b : Bool} (he : e ≠ 0) (hr : 0 ≤ r.n) (f1 : Runs Tryz.prog 12 [cD ops fold, rV ins] (bD true)) (m : Runs Tryz.prog 14 [cD ops fold] (cD ops fold)) (st : Runs Tryz.prog 13 [cD ops fold, rV ins] (.tup [frD r, iD e])) (rst : Runs Tryz.prog 15 [cD ops fold, rV ins] (.tup [frD r, iD e]))
    (my : Runs Tryz.prog 16 [cD ops fold, iD slots] (bD b)) (rmy : Runs Tryz.prog 17 [cD ops fold, iD slots] (bD b)) (sm : Runs Tryz.prog 18 [frD r, frD r] (bD true)) : Runs Tryz.prog 3 [cD ops fold, rV ins, iD slots] (bD true) := by
  have f0 := fshown_runs
  have t1 : (!(e == e)) = false := by simp
  have t2 : decide ((0 : Int) ≤ r.n) = true := decide_eq_true hr
  have t3 : (e == 0) = false := by simpa using he
  have nob : (!(b == b)) = false := by simp
  refine Runs.wp Am.hT Am.hm Tryz.func3 rfl (by decide) ⟨[(6, .kc (.first 2 (.first 5 (.load 0 [1, 3, 6, 7, 8, 9, 10, 11, 12, 13, 14, 15, 16, 17, 18] (.ld2 4 [6, 7, 8, 9, 10, 11, 12, 13, 14, 15, 16, 17, 18] [] (.alt 1 (.alt 3 (.alt 6 (.first 7 (.first 8 (.first 9 (.first 10 (.first 11 (.first 12 (.first 13 (.load 14 [16, 17, 18] (.load 15 [16, 17, 18] (.alt 16 (.first 17 (.first 18 .done)) .nil)))))))))) .nil) .nil) .nil)))))), (15, .kc (.first 2 (.first 4 (.load 0 [1, 7, 8, 9, 10, 11, 12, 13, 14, 15, 16, 17, 18, 19, 20, 21, 22, 23, 24, 25, 26, 27, 28, 29] (.ld2 3 [6, 7, 8, 9, 10, 11, 12, 13, 14, 15, 16, 17, 18, 19, 20, 21, 22, 23, 24, 25, 26, 27, 28, 29] [] (.ld2 5 [6, 7, 8, 9, 10, 11, 12, 13, 14, 15, 16, 17, 18, 19, 20, 21, 22, 23, 24, 25, 26, 27, 28, 29] [] (.first 6 (.alt 1 (.first 7 (.first 8 (.first 9 (.first 10 (.first 11 (.first 12 (.first 13 (.load 14 [16, 17, 18, 19, 20, 21, 22, 23, 24, 25, 26, 27, 28, 29] (.load 15 [16, 17, 18, 19, 20, 21, 22, 23, 24, 25, 26, 27, 28, 29] (.alt 16 (.first 17 (.first 18 (.first 19 (.first 20 (.first 21 (.first 22 (.first 23 (.first 24 (.load 25 [27, 28, 29] (.load 26 [27, 28, 29] (.alt 27 (.first 28 (.first 29 .done)) .nil))))))))))) .nil)))))))))) .nil))))))))], [0, 1, 2, 3, 6, 7, 8, 9, 10, 11, 12, 13, 14, 15, 16, 17, 18, 19, 20, 25, 58, 66, 118], 122⟩ ?_; ((conv => whnf); repeat (refine Gq ?_; (conv => whnf)))
  ((conv => whnf); repeat ((first | refine Wo ?_ | refine Lt (by decide) ?_ | refine Lf (by decide) ?_ | refine Cl (by decide) ?_ | refine Cr (by decide) ?_ | refine ⟨_, rfl, ?_⟩ | refine Mi rfl ?_ | (refine HfA f0 ?_) | (refine HfA f1 ?_) | (refine HrA m ?_) | (refine HrA st ?_) | (refine HrA rst ?_) | (refine And.intro ArA ?_)); (conv => whnf)))
  cases b with
  | true =>
    (refine And.intro (by decide +kernel) ?_; apply Exists.intro; apply And.intro; focus ((repeat' ((conv => whnf); first | exact trivial | refine Wo ?_ | refine Lt (by decide) ?_ | refine Lf (by decide) ?_ | refine Cl (by decide) ?_ | refine Cr (by decide) ?_ | refine Both.mk ?_ ?_ | (first | exact Wk.frc (keep := [0, 1, 2, 3, 6, 7, 8, 9, 10, 11, 12, 13, 14, 15, 16, 17, 18, 19, 20, 25, 58, 66, 118]) (N := 122) (by (conv => whnf); first | done | exact rfl) | (refine HcB.runs m ?_ ?_; (focus ((repeat ((conv => arg 1; whnf); first | exact Tels.nil | apply Tels.cons | apply Tel.aggs | apply Tel.tups | exact Tel.refl _ | exact Tel.nil1 _ | exact Tel.cap _ _ _ _)); done))) | (refine HcB.flat my ?_ rfl ?_; (focus ((repeat ((conv => arg 1; whnf); first | exact Tels.nil | apply Tels.cons | apply Tel.aggs | apply Tel.tups | exact Tel.refl _ | exact Tel.nil1 _ | exact Tel.cap _ _ _ _)); done))) | (refine HcB.flat rmy ?_ rfl ?_; (focus ((repeat ((conv => arg 1; whnf); first | exact Tels.nil | apply Tels.cons | apply Tel.aggs | apply Tel.tups | exact Tel.refl _ | exact Tel.nil1 _ | exact Tel.cap _ _ _ _)); done))) | refine litE t1 ?_ | (refine HcB.flat sm ?_ rfl ?_; (focus ((repeat ((conv => arg 1; whnf); first | exact Tels.nil | apply Tels.cons | apply Tel.aggs | apply Tel.tups | exact Tel.refl _ | exact Tel.nil1 _ | exact Tel.cap _ _ _ _)); done)))) | refine ⟨_, rfl, ?_⟩ | refine Mi rfl ?_ | (refine And.intro ?_ ?_))); all_goals (first | decide | rfl | assumption | omega | (dsimp only; omega) | (unfold maxLen; omega) | ((try dsimp only [maxLen]); simp only [List.length_append, List.length_cons, List.length_nil, List.length_map, List.length_range, List.length_set, List.length_replicate]; omega) | ((try dsimp only [maxLen]); simp only [IntKind.wrap_i64, IntKind.wrap_u64, List.length_append, List.length_cons, List.length_nil, List.length_map, List.length_range, List.length_set, List.length_replicate]; omega) | ((try dsimp only [maxLen]); simp only [List.length_append, List.length_cons, List.length_nil, List.length_map, List.length_range, List.length_set, List.length_replicate] at *; omega))))
    ((conv => whnf); repeat (refine Gq ?_; (conv => whnf)))
    refine ⟨1, ?_⟩
    ((conv => whnf); repeat ((first | refine Wo ?_ | refine Lt (by decide) ?_ | refine Lf (by decide) ?_ | refine Cl (by decide) ?_ | refine Cr (by decide) ?_ | refine ⟨_, rfl, ?_⟩ | refine Mi rfl ?_ | refine litE t2 ?_ | refine litE t3 ?_ | (refine And.intro ArA ?_)); (conv => whnf)))
    exact TeA
  | false =>
    (refine And.intro (by decide +kernel) ?_; apply Exists.intro; apply And.intro; focus ((repeat' ((conv => whnf); first | exact trivial | refine Wo ?_ | refine Lt (by decide) ?_ | refine Lf (by decide) ?_ | refine Cl (by decide) ?_ | refine Cr (by decide) ?_ | refine Both.mk ?_ ?_ | (first | exact Wk.frc (keep := [0, 1, 2, 3, 6, 7, 8, 9, 10, 11, 12, 13, 14, 15, 16, 17, 18, 19, 20, 25, 58, 66, 118]) (N := 122) (by (conv => whnf); first | done | exact rfl) | (refine HcB.runs m ?_ ?_; (focus ((repeat ((conv => arg 1; whnf); first | exact Tels.nil | apply Tels.cons | apply Tel.aggs | apply Tel.tups | exact Tel.refl _ | exact Tel.nil1 _ | exact Tel.cap _ _ _ _)); done))) | (refine HcB.flat my ?_ rfl ?_; (focus ((repeat ((conv => arg 1; whnf); first | exact Tels.nil | apply Tels.cons | apply Tel.aggs | apply Tel.tups | exact Tel.refl _ | exact Tel.nil1 _ | exact Tel.cap _ _ _ _)); done))) | (refine HcB.flat rmy ?_ rfl ?_; (focus ((repeat ((conv => arg 1; whnf); first | exact Tels.nil | apply Tels.cons | apply Tel.aggs | apply Tel.tups | exact Tel.refl _ | exact Tel.nil1 _ | exact Tel.cap _ _ _ _)); done))) | refine litE t1 ?_ | (refine HcB.flat sm ?_ rfl ?_; (focus ((repeat ((conv => arg 1; whnf); first | exact Tels.nil | apply Tels.cons | apply Tel.aggs | apply Tel.tups | exact Tel.refl _ | exact Tel.nil1 _ | exact Tel.cap _ _ _ _)); done)))) | refine ⟨_, rfl, ?_⟩ | refine Mi rfl ?_ | (refine And.intro ?_ ?_))); all_goals (first | decide | rfl | assumption | omega | (dsimp only; omega) | (unfold maxLen; omega) | ((try dsimp only [maxLen]); simp only [List.length_append, List.length_cons, List.length_nil, List.length_map, List.length_range, List.length_set, List.length_replicate]; omega) | ((try dsimp only [maxLen]); simp only [IntKind.wrap_i64, IntKind.wrap_u64, List.length_append, List.length_cons, List.length_nil, List.length_map, List.length_range, List.length_set, List.length_replicate]; omega) | ((try dsimp only [maxLen]); simp only [List.length_append, List.length_cons, List.length_nil, List.length_map, List.length_range, List.length_set, List.length_replicate] at *; omega))))
    ((conv => whnf); repeat (refine Gq ?_; (conv => whnf)))
    refine ⟨1, ?_⟩
    ((conv => whnf); repeat ((first | refine Wo ?_ | refine Lt (by decide) ?_ | refine Lf (by decide) ?_ | refine Cl (by decide) ?_ | refine Cr (by decide) ?_ | refine ⟨_, rfl, ?_⟩ | refine Mi rfl ?_ | refine litE t2 ?_ | refine litE t3 ?_ | (refine And.intro ArA ?_)); (conv => whnf)))
    exact TeA
noncomputable def stQ (ops : List OpL) (fold : ByteArray) (ins : List ValL) (slots : Int) (g : FrL) (i : Nat) : St :=
  { t := pin [(1, .d (rV ins)), (2, .d (iD slots)), (3, .pt 0 0), (7, .d (bD true)), (8, .pt 1 0), (10, .pt 2 0), (11, .d (iD 0)), (12, .d (iD i))], N := 122,
    h := hpin [some (.st 24 [.d (rO ops), .d (sD fold)]), some (.st 33 (frV g)), some (.st 39 (frV g))], n := 3, lo := 0 }
theorem fsteps_go {f : FrL} {b : Bool} (hok : FrOk f) (hN : RowN f) (hk0 : f.k = 0) (hol : f.ops.length ≤ 1000) (f1 : Runs Tryz.prog 12 [cD ops fold, rV ins] (bD true)) (m : Runs Tryz.prog 14 [cD ops fold] (cD ops fold)) (st : Runs Tryz.prog 13 [cD ops fold, rV ins] (.tup [frD f, iD 0])) (rst : Runs Tryz.prog 15 [cD ops fold, rV ins] (.tup [frD f, iD 0]))
    (my : Runs Tryz.prog 16 [cD ops fold, iD slots] (bD b)) (rmy : Runs Tryz.prog 17 [cD ops fold, iD slots] (bD b)) : Runs Tryz.prog 3 [cD ops fold, rV ins, iD slots] (bD true) := by
  have f0 := fshown_runs
  have hn1 := hok.n1
  have hn2 := hok.n2
  have samev : ∀ g : FrL, FrOk g → g.ops.length ≤ 1000 → Runs Tryz.prog 18 [frD g, frD g] (bD true) := fun g hg ho => lsame_runs g (by omega) hg.il (fun v hv => ⟨hg.sh v hv, (hg.ok v hv).2.1⟩) (by have := hg.outl; omega)
  have sm := samev f hok hol
  have hopl : ∀ j, (stepsF j f).ops = f.ops := fun j => by
    induction j with
    | zero => rfl
    | succ j ih =>
      obtain ⟨q1, q2, q3⟩ := steps_ok hok hN j
      exact (step_full q1).2.2.2.1.trans ih
  have t1 : (!((0 : Int) == 0)) = false := rfl
  cases b
  all_goals
    refine Runs.wp Am.hT Am.hm Tryz.func3 rfl (by decide) ⟨[(6, .kc (.first 2 (.first 5 (.load 0 [1, 3, 6, 7, 8, 9, 10, 11, 12, 13, 14, 15, 16, 17, 18] (.ld2 4 [6, 7, 8, 9, 10, 11, 12, 13, 14, 15, 16, 17, 18] [] (.alt 1 (.alt 3 (.alt 6 (.first 7 (.first 8 (.first 9 (.first 10 (.first 11 (.first 12 (.first 13 (.load 14 [16, 17, 18] (.load 15 [16, 17, 18] (.alt 16 (.first 17 (.first 18 .done)) .nil)))))))))) .nil) .nil) .nil)))))), (15, .kc (.first 2 (.first 4 (.load 0 [1, 7, 8, 9, 10, 11, 12, 13, 14, 15, 16, 17, 18, 19, 20, 21, 22, 23, 24, 25, 26, 27, 28, 29] (.ld2 3 [6, 7, 8, 9, 10, 11, 12, 13, 14, 15, 16, 17, 18, 19, 20, 21, 22, 23, 24, 25, 26, 27, 28, 29] [] (.ld2 5 [6, 7, 8, 9, 10, 11, 12, 13, 14, 15, 16, 17, 18, 19, 20, 21, 22, 23, 24, 25, 26, 27, 28, 29] [] (.first 6 (.alt 1 (.first 7 (.first 8 (.first 9 (.first 10 (.first 11 (.first 12 (.first 13 (.load 14 [16, 17, 18, 19, 20, 21, 22, 23, 24, 25, 26, 27, 28, 29] (.load 15 [16, 17, 18, 19, 20, 21, 22, 23, 24, 25, 26, 27, 28, 29] (.alt 16 (.first 17 (.first 18 (.first 19 (.first 20 (.first 21 (.first 22 (.first 23 (.first 24 (.load 25 [27, 28, 29] (.load 26 [27, 28, 29] (.alt 27 (.first 28 (.first 29 .done)) .nil))))))))))) .nil)))))))))) .nil))))))))], [0, 1, 2, 3, 6, 7, 8, 9, 10, 11, 12, 13, 14, 15, 16, 17, 18, 19, 20, 25, 58, 66, 118], 122⟩ ?_; ((conv => whnf); repeat (refine Gq ?_; (conv => whnf)))
    ((conv => whnf); repeat ((first | refine Wo ?_ | refine Lt (by decide) ?_ | refine Lf (by decide) ?_ | refine Cl (by decide) ?_ | refine Cr (by decide) ?_ | refine ⟨_, rfl, ?_⟩ | refine Mi rfl ?_ | (refine HfA f0 ?_) | (refine HfA f1 ?_) | (refine HrA m ?_) | (refine HrA st ?_) | (refine HrA rst ?_) | (refine And.intro ArA ?_)); (conv => whnf)))
    (refine And.intro (by decide +kernel) ?_; apply Exists.intro; apply And.intro; focus ((repeat' ((conv => whnf); first | exact trivial | refine Wo ?_ | refine Lt (by decide) ?_ | refine Lf (by decide) ?_ | refine Cl (by decide) ?_ | refine Cr (by decide) ?_ | refine Both.mk ?_ ?_ | (first | exact Wk.frc (keep := [0, 1, 2, 3, 6, 7, 8, 9, 10, 11, 12, 13, 14, 15, 16, 17, 18, 19, 20, 25, 58, 66, 118]) (N := 122) (by (conv => whnf); first | done | exact rfl) | (refine HcB.runs m ?_ ?_; (focus ((repeat ((conv => arg 1; whnf); first | exact Tels.nil | apply Tels.cons | apply Tel.aggs | apply Tel.tups | exact Tel.refl _ | exact Tel.nil1 _ | exact Tel.cap _ _ _ _)); done))) | (refine HcB.flat my ?_ rfl ?_; (focus ((repeat ((conv => arg 1; whnf); first | exact Tels.nil | apply Tels.cons | apply Tel.aggs | apply Tel.tups | exact Tel.refl _ | exact Tel.nil1 _ | exact Tel.cap _ _ _ _)); done))) | (refine HcB.flat rmy ?_ rfl ?_; (focus ((repeat ((conv => arg 1; whnf); first | exact Tels.nil | apply Tels.cons | apply Tel.aggs | apply Tel.tups | exact Tel.refl _ | exact Tel.nil1 _ | exact Tel.cap _ _ _ _)); done))) | (refine HcB.flat sm ?_ rfl ?_; (focus ((repeat ((conv => arg 1; whnf); first | exact Tels.nil | apply Tels.cons | apply Tel.aggs | apply Tel.tups | exact Tel.refl _ | exact Tel.nil1 _ | exact Tel.cap _ _ _ _)); done)))) | refine ⟨_, rfl, ?_⟩ | refine Mi rfl ?_ | (refine And.intro ?_ ?_))); all_goals (first | decide | rfl | assumption | omega | (dsimp only; omega) | (unfold maxLen; omega) | ((try dsimp only [maxLen]); simp only [List.length_append, List.length_cons, List.length_nil, List.length_map, List.length_range, List.length_set, List.length_replicate]; omega) | ((try dsimp only [maxLen]); simp only [IntKind.wrap_i64, IntKind.wrap_u64, List.length_append, List.length_cons, List.length_nil, List.length_map, List.length_range, List.length_set, List.length_replicate]; omega) | ((try dsimp only [maxLen]); simp only [List.length_append, List.length_cons, List.length_nil, List.length_map, List.length_range, List.length_set, List.length_replicate] at *; omega))))
    ((conv => whnf); repeat (refine Gq ?_; (conv => whnf)))
    refine loop_ind (fun k (i : Nat) => i + k = f.n.toNat + 2 ∧ (i : Int) ≤ f.n + 1) (fun i => stQ ops fold ins slots (stepsF i f) i) (fun i h => by omega) ?_ (f.n.toNat + 2) 0 ⟨by omega, by omega⟩ _ ?_
    · rintro k i R ih ⟨hk, hi⟩
      obtain ⟨g1, g2, g3⟩ := steps_ok hok hN i
      have go1 := hopl i
      have hs : stepsF (i + 1) f = (stepF (stepsF i f)).1 := rfl
      unfold stQ
      generalize stepsF i f = g at *
      by_cases hlt : (i : Int) ≤ f.n
      · have t2 : decide ((i : Int) ≤ g.n) = true := decide_eq_true (by omega)
        have v1 := val_runs g (by have := g1.il; omega) (by have := g1.outl; omega)
        have v2 := rval_runs g (by have := g1.il; omega) (by have := g1.outl; omega)
        obtain ⟨s1, s2, s3, s4, s5, s6, s7, s8⟩ := step_full g1
        have r1 := rstep_full g1 g2
        have d := done_runs g
        have bd := val_bd g1
        have sv := rsameV_runs (valF g).1.1 (valF g).1.1 (valF g).1.2 (valF g).1.2 (by omega) (by omega)
        rw [decide_eq_true ⟨rfl, rfl⟩] at sv
        have sn := samev _ s2 (by rw [s4, go1]; exact hol)
        rw [← hs] at s1 r1 sn
        generalize hq : stepsF (i + 1) f = g' at *
        generalize (stepF g).2 = e at *
        generalize valF g = v at *
        obtain ⟨⟨vs, ve⟩, vb⟩ := v
        dsimp only at *
        have t3 : (!(e == e)) = false := by simp
        generalize hdn : decide (g.n ≤ g.k) = dn at *
        have t4 : decide (g.k ≥ g.n) = dn := hdn
        cases dn <;> cases vb
        all_goals
          ((conv => whnf); repeat ((first | refine Wo ?_ | refine Lt (by decide) ?_ | refine Lf (by decide) ?_ | refine Cl (by decide) ?_ | refine Cr (by decide) ?_ | refine ⟨_, rfl, ?_⟩ | refine Mi rfl ?_ | refine litE t2 ?_ | (refine HrA v1 ?_) | (refine HrA v2 ?_) | (refine HrA s1 ?_) | (refine HrA r1 ?_) | (refine And.intro ArA ?_)); (conv => whnf)))
          (refine And.intro (by decide +kernel) ?_; apply Exists.intro; apply And.intro; focus ((repeat' ((conv => whnf); first | exact trivial | refine Wo ?_ | refine Lt (by decide) ?_ | refine Lf (by decide) ?_ | refine Cl (by decide) ?_ | refine Cr (by decide) ?_ | refine Both.mk ?_ ?_ | (first | exact Wk.frc (keep := [0, 1, 2, 3, 6, 7, 8, 9, 10, 11, 12, 13, 14, 15, 16, 17, 18, 19, 20, 25, 58, 66, 118]) (N := 122) (by (conv => whnf); first | done | exact rfl) | (refine HcB.flat d ?_ rfl ?_; (focus ((repeat ((conv => arg 1; whnf); first | exact Tels.nil | apply Tels.cons | apply Tel.aggs | apply Tel.tups | exact Tel.refl _ | exact Tel.nil1 _ | exact Tel.cap _ _ _ _)); done))) | refine litE t4 ?_ | (refine HcB.flat sv ?_ rfl ?_; (focus ((repeat ((conv => arg 1; whnf); first | exact Tels.nil | apply Tels.cons | apply Tel.aggs | apply Tel.tups | exact Tel.refl _ | exact Tel.nil1 _ | exact Tel.cap _ _ _ _)); done))) | refine litE t3 ?_ | (refine HcB.flat sn ?_ rfl ?_; (focus ((repeat ((conv => arg 1; whnf); first | exact Tels.nil | apply Tels.cons | apply Tel.aggs | apply Tel.tups | exact Tel.refl _ | exact Tel.nil1 _ | exact Tel.cap _ _ _ _)); done)))) | refine ⟨_, rfl, ?_⟩ | refine Mi rfl ?_ | (refine And.intro ?_ ?_))); all_goals (first | decide | rfl | assumption | omega | (dsimp only; omega) | (unfold maxLen; omega) | ((try dsimp only [maxLen]); simp only [List.length_append, List.length_cons, List.length_nil, List.length_map, List.length_range, List.length_set, List.length_replicate]; omega) | ((try dsimp only [maxLen]); simp only [IntKind.wrap_i64, IntKind.wrap_u64, List.length_append, List.length_cons, List.length_nil, List.length_map, List.length_range, List.length_set, List.length_replicate]; omega) | ((try dsimp only [maxLen]); simp only [List.length_append, List.length_cons, List.length_nil, List.length_map, List.length_range, List.length_set, List.length_replicate] at *; omega))))
          ((conv => whnf); repeat (refine Gq ?_; (conv => whnf)))
          refine ih (i + 1) _ ⟨by omega, by omega⟩ ?_
          rw [hq]
          unfold stQ
          (refine Wk.pin [0, 1, 2] _ _ ?_ ?_ rfl rfl (by decide) rfl rfl <;> (repeat' first | exact trivial | rfl | (refine And.intro ?_ ?_)))
          exact inE (i64n (by simp) (by omega))
      · have t2 : decide ((i : Int) ≤ g.n) = false := decide_eq_false (by omega)
        ((conv => whnf); repeat ((first | refine Wo ?_ | refine Lt (by decide) ?_ | refine Lf (by decide) ?_ | refine Cl (by decide) ?_ | refine Cr (by decide) ?_ | refine ⟨_, rfl, ?_⟩ | refine Mi rfl ?_ | refine litE t2 ?_ | (refine And.intro ArA ?_)); (conv => whnf)))
        exact TeA
    · unfold stQ
      (refine Wk.to _ _ ?_ ?_ <;> (repeat' first | exact trivial | rfl | (refine And.intro ?_ ?_)))
end
theorem FrameSteps_runs (ops : List OpL) (fold : ByteArray) (ins : List ValL) (slots : Int) (ho : ops.length ≤ 9223372036854775807) (hi : ins.length ≤ 9223372036854775807) (hb : ∀ v ∈ ins, v.1.length ≤ 9223372036854775807 ∧ v.2.length ≤ 9223372036854775807) (hsl : (Lit.int .i64 slots).wf = true) : Runs Tryz.prog 3 [cD ops fold, rV ins, iD slots] (bD true) := by
  have f1 := few20_runs ops fold ins ho hi hb
  cases hf : few20 ops ins with
  | false => rw [hf] at f1; exact fsteps_no f1
  | true =>
    rw [hf] at f1
    obtain ⟨b1, b2, b3⟩ := few20_of hf
    obtain ⟨c1, c2⟩ := few20_txt hf
    have hb' : ∀ v ∈ ins, v.1.length ≤ 100000000 ∧ v.2.length ≤ 100000000 := fun v hv => by have := b3 v hv; omega
    have m := made_runs ops fold (by omega)
    have my := may_runs2 ops fold slots (by omega)
    have rmy := rmayC_runs ops fold slots (fun o ho => by have := c1 o ho; omega)
    have st := start_runs ops fold ins (by omega) (by omega) hb'
    have rst := rstart_runs ops fold ins (fun o ho => by have := c1 o ho; omega) (by omega) (fun v hv => ⟨by have := b3 v hv; omega, by have := b3 v hv; omega, fun b hb => by have := c2 v hv b hb; omega⟩)
    by_cases he : (startF ops fold ins).2 = 0
    · obtain ⟨ok, e1, e2, e3, e4, _⟩ := start_ok (by omega) hb' he
      rw [he] at st rst
      have hN : RowN (startF ops fold ins).1 := fun v hv => by
        have hn := ok.n1
        rw [e3] at hv
        have := rows_ok (by omega) hb' he (k := (startF ops fold ins).1.n.toNat - 1) (by omega) v hv
        rcases this with ⟨h1, h2⟩ | h
        · exact .inl ⟨h1, by omega⟩
        · exact .inr h
      exact fsteps_go ok hN e4 (by rw [e1]; omega) f1 m st rst my rmy
    · have hz := start_bad he
      rw [hz] at st rst
      exact fsteps_err he (by decide) f1 m st rst my rmy (lsame_runs frZ (by decide) (by decide) (fun v hv => by cases hv) (by decide))
end Go.Proofs.YtkhgpnbhnipndaaGreatDoor.Am
end
