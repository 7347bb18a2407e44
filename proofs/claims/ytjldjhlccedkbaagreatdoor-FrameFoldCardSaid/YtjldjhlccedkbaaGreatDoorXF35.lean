/- What the law leans on, part 36: declarations of several texts of ours, in their order. -/
import Derived.Test.YtjldjhlccedkbaaGreatDoorXF30
section
/- FrameFold, walked. -/
namespace Go.Proofs.YtjldjhlccedkbaaGreatDoor.Am
open Go Go.RowKit Go.Proofs.YtjldjhlccedkbaaGreatDoor.Sh
open Go.Proofs.YtjldjhlccedkbaaGreatDoor.Nm (numS)
set_option linter.unusedVariables false
set_option linter.unusedSimpArgs false
set_option maxRecDepth 100000
set_option maxHeartbeats 8000000
def foldA (op a : ByteArray) (l : List ByteArray) : ByteArray := l.foldl (fun a x => (sd op a x).1) a
def okA (op : ByteArray) : ByteArray → List ByteArray → Prop
  | _, [] => True
  | a, x :: l => (sd op a x).2 = 0 ∧ okA op (sd op a x).1 l
theorem foldA_snoc (op a x : ByteArray) (l : List ByteArray) : foldA op a (l ++ [x]) = (sd op (foldA op a l) x).1 := by unfold foldA; rw [List.foldl_append]; rfl
theorem okA_snoc {op x : ByteArray} : ∀ {l : List ByteArray} {a : ByteArray}, okA op a l → (sd op (foldA op a l) x).2 = 0 → okA op a (l ++ [x])
  | [], a, _, h => ⟨h, trivial⟩
  | y :: l, a, h, h2 => ⟨h.1, okA_snoc h.2 h2⟩
theorem okA_may {op : ByteArray} : ∀ {l : List ByteArray} {a : ByteArray}, mayB a = true → (∀ b ∈ l, mayB b = true) → okA op a l → ∀ j, mayB (foldA op a (l.take j)) = true
  | [], a, ha, _, _, j => by rw [List.take_nil]; exact ha
  | x :: l, a, ha, hl, h, 0 => ha
  | x :: l, a, ha, hl, h, j + 1 => okA_may (l := l) (sd_may ha (hl x (by simp)) h.1) (fun b hb => hl b (by simp [hb])) h.2 j
theorem foldA_take {op a : ByteArray} {l : List ByteArray} {j : Nat} (h : j < l.length) : foldA op a (l.take (j + 1)) = (sd op (foldA op a (l.take j)) l[j]).1 := by rw [take_snoc h, foldA_snoc]
/-- two frames of the same code, with and without a fold -/
structure Fd (i : Nat) (f g : FrL) : Prop where
  fo : FrOk f
  go : FrOk g
  fk : f.k = i
  gk : g.k = i
  n : f.n = g.n
  ff : f.fold ≠ ByteArray.empty
  gf : g.fold = ByteArray.empty
  ops : f.ops = g.ops
  ins : f.ins = g.ins
  ch : (i = 0 ∧ g.out = []) ∨ ∃ h t, g.out = h :: t ∧ f.acc = foldA f.fold h t ∧ okA f.fold h t ∧ ∀ b ∈ g.out, mayB b = true
theorem fd_step {i : Nat} {f g : FrL} (h : Fd i f g) (hd : ¬ f.n ≤ f.k) : (stepF f).2 ≠ 0 ∨ ((stepF f).2 = 0 ∧ (stepF g).2 = 0 ∧ Fd (i + 1) (stepF f).1 (stepF g).1) := by
  by_cases he : (stepF f).2 = 0
  · obtain ⟨s1, s2, s3, s4, s5, s6, s7, s8⟩ := step_full h.fo
    obtain ⟨r1, r2, r3, r4, r5, r6, r7, r8⟩ := step_full h.go
    have hm := oneC_may (k := i) h.fo.ok f.ops [] (mayC_parts h.fo.mc).2.2.2 (fun b hb => by simp at hb)
    have ef : stepF f = (let x := oneC f.ins i f.ops []
      if x.2 = 0 then
        if f.fold = ByteArray.empty then ({ f with out := f.out ++ [x.1], k := f.k + 1 }, 0)
        else if 0 < f.k then
          let y := sd f.fold f.acc x.1
          if y.2 = 0 then ({ f with acc := y.1, k := f.k + 1 }, 0) else (f, y.2)
        else ({ f with acc := x.1, k := f.k + 1 }, 0)
      else (f, x.2)) := by
      unfold stepF
      rw [if_neg (by rintro (h' | h'); exact hd h'; rw [h.fo.fine] at h'; cases h'), h.fk, Int.toNat_natCast]
    have eg : stepF g = (let x := oneC f.ins i f.ops []
      if x.2 = 0 then
        if g.fold = ByteArray.empty then ({ g with out := g.out ++ [x.1], k := g.k + 1 }, 0)
        else if 0 < g.k then
          let y := sd g.fold g.acc x.1
          if y.2 = 0 then ({ g with acc := y.1, k := g.k + 1 }, 0) else (g, y.2)
        else ({ g with acc := x.1, k := g.k + 1 }, 0)
      else (g, x.2)) := by
      unfold stepF
      rw [if_neg (by rintro (h' | h'); have := h.n; have := h.fk; have := h.gk; omega; rw [h.go.fine] at h'; cases h'), h.gk, Int.toNat_natCast, ← h.ops, ← h.ins]
    dsimp only at ef eg
    generalize oneC f.ins i f.ops [] = x at *
    obtain ⟨x, e⟩ := x
    dsimp only at *
    by_cases h0 : e = 0
    · subst h0
      have hx := hm rfl
      rw [if_pos rfl, if_neg h.ff] at ef
      rw [if_pos rfl, if_pos h.gf] at eg
      refine .inr ⟨he, by rw [eg], ?_⟩
      refine ⟨s2, r2, ?_, ?_, by rw [s7, r7]; exact h.n, by rw [s5]; exact h.ff, by rw [r5]; exact h.gf, by rw [s4, r4]; exact h.ops, by rw [s6, r6]; exact h.ins, ?_⟩
      · rw [s3 he (by omega), h.fk]; rfl
      · rw [eg]; dsimp only; rw [h.gk]; rfl
      · right
        rw [s5]
        rcases h.ch with ⟨hi, ho⟩ | ⟨h1, t, ho, ha, hok, hmb⟩
        · have hk : ¬ 0 < f.k := by rw [h.fk, hi]; decide
          rw [if_neg hk] at ef
          rw [eg, ef]
          dsimp only
          refine ⟨x, [], by rw [ho]; rfl, rfl, trivial, fun b hb => ?_⟩
          rw [ho] at hb
          rw [List.mem_singleton.1 hb]
          exact hx
        · have hk : 0 < f.k := by
            have := (h.go.ol h.gf).1
            rw [ho, List.length_cons] at this
            have := h.gk
            have := h.fk
            omega
          rw [if_pos hk] at ef
          by_cases hy : (sd f.fold f.acc x).2 = 0
          · rw [if_pos hy] at ef
            rw [eg, ef]
            dsimp only
            refine ⟨h1, t ++ [x], by rw [ho]; rfl, by rw [foldA_snoc, ha], okA_snoc hok (by rw [← ha]; exact hy), fun b hb => ?_⟩
            rcases List.mem_append.1 hb with hb | hb
            · exact hmb b hb
            · rw [List.mem_singleton.1 hb]; exact hx
          · rw [if_neg hy] at ef
            rw [ef] at he
            exact absurd he hy
    · rw [if_neg h0] at ef
      rw [ef] at he
      exact absurd he h0
  · exact .inl he
section
variable {ops : List OpL} {fold : ByteArray} {ins : List ValL}
theorem fold_no (f1 : Runs Tryz.prog 27 [cD ops fold, rV ins] (bD false)) : Runs Tryz.prog 9 [cD ops fold, rV ins] (bD true) := by
  have f0 := fshown_runs
  refine Runs.wp Go.Proofs.YtjldjhlccedkbaaGreatDoor.Am.hT Go.Proofs.YtjldjhlccedkbaaGreatDoor.Am.hm Tryz.func9 rfl (by decide) ⟨[(25, .first 0 (.first 2 (.first 3 (.first 5 (.load 1 [8, 9, 10, 11, 12] (.load 4 [6, 7, 8, 9, 10, 11, 12] (.first 6 (.load 7 [8, 9, 10, 11, 12] (.alt 8 (.first 9 (.first 10 (.first 11 (.first 12 .done)))) .nil)))))))))], [0, 1, 2, 4, 5, 6, 7, 8, 9, 10, 11, 12, 13, 14, 15, 16, 17, 27, 46, 63, 81, 98, 107, 131], 137⟩ ?_; ((conv => whnf); repeat ((first | refine Wo ?_ | refine Lt (by decide) ?_ | refine Lf (by decide) ?_ | refine Cl (by decide) ?_ | refine Cr (by decide) ?_ | refine ⟨_, rfl, ?_⟩ | refine Mi rfl ?_); (conv => whnf)))
  ((conv => whnf); (refine Hc.flat f0 ?_ rfl ?_; (focus ((repeat ((conv => arg 1; whnf); first | exact Tels.nil | apply Tels.cons | apply Tel.aggs | apply Tel.tups | exact Tel.refl _ | exact Tel.nil1 _ | exact Tel.cap _ _ _ _)); done))); ((conv => whnf); repeat ((first | refine Wo ?_ | refine Lt (by decide) ?_ | refine Lf (by decide) ?_ | refine Cl (by decide) ?_ | refine Cr (by decide) ?_ | refine ⟨_, rfl, ?_⟩ | refine Mi rfl ?_); (conv => whnf))))
  ((conv => whnf); (refine Hc.flat f1 ?_ rfl ?_; (focus ((repeat ((conv => arg 1; whnf); first | exact Tels.nil | apply Tels.cons | apply Tel.aggs | apply Tel.tups | exact Tel.refl _ | exact Tel.nil1 _ | exact Tel.cap _ _ _ _)); done))); ((conv => whnf); repeat ((first | refine Wo ?_ | refine Lt (by decide) ?_ | refine Lf (by decide) ?_ | refine Cl (by decide) ?_ | refine Cr (by decide) ?_ | refine ⟨_, rfl, ?_⟩ | refine Mi rfl ?_); (conv => whnf))))
  ((conv => whnf); ((repeat ((conv => arg 1; whnf); first | exact Tels.nil | apply Tels.cons | apply Tel.aggs | apply Tel.tups | exact Tel.refl _ | exact Tel.nil1 _ | exact Tel.cap _ _ _ _)); done))
theorem fold_no2 (hf : fold = ByteArray.empty) (f1 : Runs Tryz.prog 27 [cD ops fold, rV ins] (bD true)) : Runs Tryz.prog 9 [cD ops fold, rV ins] (bD true) := by
  have f0 := fshown_runs
  have t : (fold.toList == ByteArray.toList ⟨#[]⟩) = true := by rw [hf]; rw [beqB]; rfl
  refine Runs.wp Go.Proofs.YtjldjhlccedkbaaGreatDoor.Am.hT Go.Proofs.YtjldjhlccedkbaaGreatDoor.Am.hm Tryz.func9 rfl (by decide) ⟨[(25, .first 0 (.first 2 (.first 3 (.first 5 (.load 1 [8, 9, 10, 11, 12] (.load 4 [6, 7, 8, 9, 10, 11, 12] (.first 6 (.load 7 [8, 9, 10, 11, 12] (.alt 8 (.first 9 (.first 10 (.first 11 (.first 12 .done)))) .nil)))))))))], [0, 1, 2, 4, 5, 6, 7, 8, 9, 10, 11, 12, 13, 14, 15, 16, 17, 27, 46, 63, 81, 98, 107, 131], 137⟩ ?_; ((conv => whnf); repeat ((first | refine Wo ?_ | refine Lt (by decide) ?_ | refine Lf (by decide) ?_ | refine Cl (by decide) ?_ | refine Cr (by decide) ?_ | refine ⟨_, rfl, ?_⟩ | refine Mi rfl ?_); (conv => whnf)))
  ((conv => whnf); (refine Hc.flat f0 ?_ rfl ?_; (focus ((repeat ((conv => arg 1; whnf); first | exact Tels.nil | apply Tels.cons | apply Tel.aggs | apply Tel.tups | exact Tel.refl _ | exact Tel.nil1 _ | exact Tel.cap _ _ _ _)); done))); ((conv => whnf); repeat ((first | refine Wo ?_ | refine Lt (by decide) ?_ | refine Lf (by decide) ?_ | refine Cl (by decide) ?_ | refine Cr (by decide) ?_ | refine ⟨_, rfl, ?_⟩ | refine Mi rfl ?_); (conv => whnf))))
  ((conv => whnf); (refine Hc.flat f1 ?_ rfl ?_; (focus ((repeat ((conv => arg 1; whnf); first | exact Tels.nil | apply Tels.cons | apply Tel.aggs | apply Tel.tups | exact Tel.refl _ | exact Tel.nil1 _ | exact Tel.cap _ _ _ _)); done))); ((conv => whnf); repeat ((first | refine Wo ?_ | refine Lt (by decide) ?_ | refine Lf (by decide) ?_ | refine Cl (by decide) ?_ | refine Cr (by decide) ?_ | refine ⟨_, rfl, ?_⟩ | refine Mi rfl ?_); (conv => whnf))))
  refine litE t ?_
  ((conv => whnf); repeat ((first | refine Wo ?_ | refine Lt (by decide) ?_ | refine Lf (by decide) ?_ | refine Cl (by decide) ?_ | refine Cr (by decide) ?_ | refine ⟨_, rfl, ?_⟩ | refine Mi rfl ?_); (conv => whnf)))
  ((conv => whnf); ((repeat ((conv => arg 1; whnf); first | exact Tels.nil | apply Tels.cons | apply Tel.aggs | apply Tel.tups | exact Tel.refl _ | exact Tel.nil1 _ | exact Tel.cap _ _ _ _)); done))
theorem fold_err {r r' : FrL} {e h : Int} (hf : fold ≠ ByteArray.empty) (he : e ≠ 0) (heh : e = h ∨ e = 1) (f1 : Runs Tryz.prog 27 [cD ops fold, rV ins] (bD true)) (m : Runs Tryz.prog 29 [cD ops fold] (cD ops fold)) (st : Runs Tryz.prog 28 [cD ops fold, rV ins] (.tup [frD r, iD e])) (st2 : Runs Tryz.prog 28 [cD ops ByteArray.empty, rV ins] (.tup [frD r', iD h])) :
    Runs Tryz.prog 9 [cD ops fold, rV ins] (bD true) := by
  have f0 := fshown_runs
  have t0 : (fold.toList == ByteArray.toList ⟨#[]⟩) = false := by rw [beqB]; exact decide_eq_false hf
  have t : (!(e == 0)) = true := by simpa using he
  by_cases h1 : e = h
  · have t1 : (e == h) = true := by simpa using h1
    refine Runs.wp Go.Proofs.YtjldjhlccedkbaaGreatDoor.Am.hT Go.Proofs.YtjldjhlccedkbaaGreatDoor.Am.hm Tryz.func9 rfl (by decide) ⟨[(25, .first 0 (.first 2 (.first 3 (.first 5 (.load 1 [8, 9, 10, 11, 12] (.load 4 [6, 7, 8, 9, 10, 11, 12] (.first 6 (.load 7 [8, 9, 10, 11, 12] (.alt 8 (.first 9 (.first 10 (.first 11 (.first 12 .done)))) .nil)))))))))], [0, 1, 2, 4, 5, 6, 7, 8, 9, 10, 11, 12, 13, 14, 15, 16, 17, 27, 46, 63, 81, 98, 107, 131], 137⟩ ?_; ((conv => whnf); repeat ((first | refine Wo ?_ | refine Lt (by decide) ?_ | refine Lf (by decide) ?_ | refine Cl (by decide) ?_ | refine Cr (by decide) ?_ | refine ⟨_, rfl, ?_⟩ | refine Mi rfl ?_); (conv => whnf)))
    ((conv => whnf); (refine Hc.flat f0 ?_ rfl ?_; (focus ((repeat ((conv => arg 1; whnf); first | exact Tels.nil | apply Tels.cons | apply Tel.aggs | apply Tel.tups | exact Tel.refl _ | exact Tel.nil1 _ | exact Tel.cap _ _ _ _)); done))); ((conv => whnf); repeat ((first | refine Wo ?_ | refine Lt (by decide) ?_ | refine Lf (by decide) ?_ | refine Cl (by decide) ?_ | refine Cr (by decide) ?_ | refine ⟨_, rfl, ?_⟩ | refine Mi rfl ?_); (conv => whnf))))
    ((conv => whnf); (refine Hc.flat f1 ?_ rfl ?_; (focus ((repeat ((conv => arg 1; whnf); first | exact Tels.nil | apply Tels.cons | apply Tel.aggs | apply Tel.tups | exact Tel.refl _ | exact Tel.nil1 _ | exact Tel.cap _ _ _ _)); done))); ((conv => whnf); repeat ((first | refine Wo ?_ | refine Lt (by decide) ?_ | refine Lf (by decide) ?_ | refine Cl (by decide) ?_ | refine Cr (by decide) ?_ | refine ⟨_, rfl, ?_⟩ | refine Mi rfl ?_); (conv => whnf))))
    refine litE t0 ?_
    ((conv => whnf); repeat ((first | refine Wo ?_ | refine Lt (by decide) ?_ | refine Lf (by decide) ?_ | refine Cl (by decide) ?_ | refine Cr (by decide) ?_ | refine ⟨_, rfl, ?_⟩ | refine Mi rfl ?_); (conv => whnf)))
    ((conv => whnf); (refine Hc.runs m ?_ ?_; (focus ((repeat ((conv => arg 1; whnf); first | exact Tels.nil | apply Tels.cons | apply Tel.aggs | apply Tel.tups | exact Tel.refl _ | exact Tel.nil1 _ | exact Tel.cap _ _ _ _)); done))); ((conv => whnf); repeat ((first | refine Wo ?_ | refine Lt (by decide) ?_ | refine Lf (by decide) ?_ | refine Cl (by decide) ?_ | refine Cr (by decide) ?_ | refine ⟨_, rfl, ?_⟩ | refine Mi rfl ?_); (conv => whnf))))
    ((conv => whnf); (refine Hc.runs m ?_ ?_; (focus ((repeat ((conv => arg 1; whnf); first | exact Tels.nil | apply Tels.cons | apply Tel.aggs | apply Tel.tups | exact Tel.refl _ | exact Tel.nil1 _ | exact Tel.cap _ _ _ _)); done))); ((conv => whnf); repeat ((first | refine Wo ?_ | refine Lt (by decide) ?_ | refine Lf (by decide) ?_ | refine Cl (by decide) ?_ | refine Cr (by decide) ?_ | refine ⟨_, rfl, ?_⟩ | refine Mi rfl ?_); (conv => whnf))))
    ((conv => whnf); (refine Hc.runs st ?_ ?_; (focus ((repeat ((conv => arg 1; whnf); first | exact Tels.nil | apply Tels.cons | apply Tel.aggs | apply Tel.tups | exact Tel.refl _ | exact Tel.nil1 _ | exact Tel.cap _ _ _ _)); done))); ((conv => whnf); repeat ((first | refine Wo ?_ | refine Lt (by decide) ?_ | refine Lf (by decide) ?_ | refine Cl (by decide) ?_ | refine Cr (by decide) ?_ | refine ⟨_, rfl, ?_⟩ | refine Mi rfl ?_); (conv => whnf))))
    ((conv => whnf); (refine Hc.runs st2 ?_ ?_; (focus ((repeat ((conv => arg 1; whnf); first | exact Tels.nil | apply Tels.cons | apply Tel.aggs | apply Tel.tups | exact Tel.refl _ | exact Tel.nil1 _ | exact Tel.cap _ _ _ _)); done))); ((conv => whnf); repeat ((first | refine Wo ?_ | refine Lt (by decide) ?_ | refine Lf (by decide) ?_ | refine Cl (by decide) ?_ | refine Cr (by decide) ?_ | refine ⟨_, rfl, ?_⟩ | refine Mi rfl ?_); (conv => whnf))))
    refine litE t ?_
    ((conv => whnf); repeat ((first | refine Wo ?_ | refine Lt (by decide) ?_ | refine Lf (by decide) ?_ | refine Cl (by decide) ?_ | refine Cr (by decide) ?_ | refine ⟨_, rfl, ?_⟩ | refine Mi rfl ?_); (conv => whnf)))
    refine litE t1 ?_
    ((conv => whnf); repeat ((first | refine Wo ?_ | refine Lt (by decide) ?_ | refine Lf (by decide) ?_ | refine Cl (by decide) ?_ | refine Cr (by decide) ?_ | refine ⟨_, rfl, ?_⟩ | refine Mi rfl ?_); (conv => whnf)))
    ((conv => whnf); ((repeat ((conv => arg 1; whnf); first | exact Tels.nil | apply Tels.cons | apply Tel.aggs | apply Tel.tups | exact Tel.refl _ | exact Tel.nil1 _ | exact Tel.cap _ _ _ _)); done))
  · have t1 : (e == h) = false := by simpa using h1
    have t2 : (e == 1) = true := by simpa using heh.resolve_left h1
    refine Runs.wp Go.Proofs.YtjldjhlccedkbaaGreatDoor.Am.hT Go.Proofs.YtjldjhlccedkbaaGreatDoor.Am.hm Tryz.func9 rfl (by decide) ⟨[(25, .first 0 (.first 2 (.first 3 (.first 5 (.load 1 [8, 9, 10, 11, 12] (.load 4 [6, 7, 8, 9, 10, 11, 12] (.first 6 (.load 7 [8, 9, 10, 11, 12] (.alt 8 (.first 9 (.first 10 (.first 11 (.first 12 .done)))) .nil)))))))))], [0, 1, 2, 4, 5, 6, 7, 8, 9, 10, 11, 12, 13, 14, 15, 16, 17, 27, 46, 63, 81, 98, 107, 131], 137⟩ ?_; ((conv => whnf); repeat ((first | refine Wo ?_ | refine Lt (by decide) ?_ | refine Lf (by decide) ?_ | refine Cl (by decide) ?_ | refine Cr (by decide) ?_ | refine ⟨_, rfl, ?_⟩ | refine Mi rfl ?_); (conv => whnf)))
    ((conv => whnf); (refine Hc.flat f0 ?_ rfl ?_; (focus ((repeat ((conv => arg 1; whnf); first | exact Tels.nil | apply Tels.cons | apply Tel.aggs | apply Tel.tups | exact Tel.refl _ | exact Tel.nil1 _ | exact Tel.cap _ _ _ _)); done))); ((conv => whnf); repeat ((first | refine Wo ?_ | refine Lt (by decide) ?_ | refine Lf (by decide) ?_ | refine Cl (by decide) ?_ | refine Cr (by decide) ?_ | refine ⟨_, rfl, ?_⟩ | refine Mi rfl ?_); (conv => whnf))))
    ((conv => whnf); (refine Hc.flat f1 ?_ rfl ?_; (focus ((repeat ((conv => arg 1; whnf); first | exact Tels.nil | apply Tels.cons | apply Tel.aggs | apply Tel.tups | exact Tel.refl _ | exact Tel.nil1 _ | exact Tel.cap _ _ _ _)); done))); ((conv => whnf); repeat ((first | refine Wo ?_ | refine Lt (by decide) ?_ | refine Lf (by decide) ?_ | refine Cl (by decide) ?_ | refine Cr (by decide) ?_ | refine ⟨_, rfl, ?_⟩ | refine Mi rfl ?_); (conv => whnf))))
    refine litE t0 ?_
    ((conv => whnf); repeat ((first | refine Wo ?_ | refine Lt (by decide) ?_ | refine Lf (by decide) ?_ | refine Cl (by decide) ?_ | refine Cr (by decide) ?_ | refine ⟨_, rfl, ?_⟩ | refine Mi rfl ?_); (conv => whnf)))
    ((conv => whnf); (refine Hc.runs m ?_ ?_; (focus ((repeat ((conv => arg 1; whnf); first | exact Tels.nil | apply Tels.cons | apply Tel.aggs | apply Tel.tups | exact Tel.refl _ | exact Tel.nil1 _ | exact Tel.cap _ _ _ _)); done))); ((conv => whnf); repeat ((first | refine Wo ?_ | refine Lt (by decide) ?_ | refine Lf (by decide) ?_ | refine Cl (by decide) ?_ | refine Cr (by decide) ?_ | refine ⟨_, rfl, ?_⟩ | refine Mi rfl ?_); (conv => whnf))))
    ((conv => whnf); (refine Hc.runs m ?_ ?_; (focus ((repeat ((conv => arg 1; whnf); first | exact Tels.nil | apply Tels.cons | apply Tel.aggs | apply Tel.tups | exact Tel.refl _ | exact Tel.nil1 _ | exact Tel.cap _ _ _ _)); done))); ((conv => whnf); repeat ((first | refine Wo ?_ | refine Lt (by decide) ?_ | refine Lf (by decide) ?_ | refine Cl (by decide) ?_ | refine Cr (by decide) ?_ | refine ⟨_, rfl, ?_⟩ | refine Mi rfl ?_); (conv => whnf))))
    ((conv => whnf); (refine Hc.runs st ?_ ?_; (focus ((repeat ((conv => arg 1; whnf); first | exact Tels.nil | apply Tels.cons | apply Tel.aggs | apply Tel.tups | exact Tel.refl _ | exact Tel.nil1 _ | exact Tel.cap _ _ _ _)); done))); ((conv => whnf); repeat ((first | refine Wo ?_ | refine Lt (by decide) ?_ | refine Lf (by decide) ?_ | refine Cl (by decide) ?_ | refine Cr (by decide) ?_ | refine ⟨_, rfl, ?_⟩ | refine Mi rfl ?_); (conv => whnf))))
    ((conv => whnf); (refine Hc.runs st2 ?_ ?_; (focus ((repeat ((conv => arg 1; whnf); first | exact Tels.nil | apply Tels.cons | apply Tel.aggs | apply Tel.tups | exact Tel.refl _ | exact Tel.nil1 _ | exact Tel.cap _ _ _ _)); done))); ((conv => whnf); repeat ((first | refine Wo ?_ | refine Lt (by decide) ?_ | refine Lf (by decide) ?_ | refine Cl (by decide) ?_ | refine Cr (by decide) ?_ | refine ⟨_, rfl, ?_⟩ | refine Mi rfl ?_); (conv => whnf))))
    refine litE t ?_
    ((conv => whnf); repeat ((first | refine Wo ?_ | refine Lt (by decide) ?_ | refine Lf (by decide) ?_ | refine Cl (by decide) ?_ | refine Cr (by decide) ?_ | refine ⟨_, rfl, ?_⟩ | refine Mi rfl ?_); (conv => whnf)))
    refine litE t1 ?_
    ((conv => whnf); repeat ((first | refine Wo ?_ | refine Lt (by decide) ?_ | refine Lf (by decide) ?_ | refine Cl (by decide) ?_ | refine Cr (by decide) ?_ | refine ⟨_, rfl, ?_⟩ | refine Mi rfl ?_); (conv => whnf)))
    refine litE t2 ?_
    ((conv => whnf); repeat ((first | refine Wo ?_ | refine Lt (by decide) ?_ | refine Lf (by decide) ?_ | refine Cl (by decide) ?_ | refine Cr (by decide) ?_ | refine ⟨_, rfl, ?_⟩ | refine Mi rfl ?_); (conv => whnf)))
    ((conv => whnf); ((repeat ((conv => arg 1; whnf); first | exact Tels.nil | apply Tels.cons | apply Tel.aggs | apply Tel.tups | exact Tel.refl _ | exact Tel.nil1 _ | exact Tel.cap _ _ _ _)); done))
abbrev frB (g : FrL) : Option Ob := some (.st 52 [.d (rO g.ops), .d (sD g.fold), .d (rV g.ins), .d (iD g.n), .d (iD g.k), .d (rS g.out none), .d (sD g.acc)])
noncomputable def foQ (ops : List OpL) (fold : ByteArray) (ins : List ValL) (f g : FrL) (i : Nat) (l : List (Nat × V)) : St :=
  { t := pin ([(1, .d (rV ins)), (2, .pt 0 0), (4, .d (bD false)), (5, .d (bD true)), (6, .pt 1 0), (7, .pt 2 0), (8, .d (iD 0)), (9, .pt 3 0), (10, .d (iD 0)), (11, .d (iD i))] ++ l), N := 137,
    h := hpin [some (.st 45 [.d (rO ops), .d (sD fold)]), some (.st 50 [.d (rO ops), .d (sD ⟨#[]⟩)]), frB f, frB g], n := 4, lo := 0 }
theorem fold_go {f g : FrL} (hf : fold ≠ ByteArray.empty) (hfd : Fd 0 f g) (hff : f.fold = fold) (f1 : Runs Tryz.prog 27 [cD ops fold, rV ins] (bD true)) (m : Runs Tryz.prog 29 [cD ops fold] (cD ops fold)) (st : Runs Tryz.prog 28 [cD ops fold, rV ins] (.tup [frD f, iD 0])) (st2 : Runs Tryz.prog 28 [cD ops ByteArray.empty, rV ins] (.tup [frD g, iD 0])) :
    Runs Tryz.prog 9 [cD ops fold, rV ins] (bD true) := by
  have f0 := fshown_runs
  have t0 : (fold.toList == ByteArray.toList ⟨#[]⟩) = false := by rw [beqB]; exact decide_eq_false hf
  refine Runs.wp Go.Proofs.YtjldjhlccedkbaaGreatDoor.Am.hT Go.Proofs.YtjldjhlccedkbaaGreatDoor.Am.hm Tryz.func9 rfl (by decide) ⟨[(25, .first 0 (.first 2 (.first 3 (.first 5 (.load 1 [8, 9, 10, 11, 12] (.load 4 [6, 7, 8, 9, 10, 11, 12] (.first 6 (.load 7 [8, 9, 10, 11, 12] (.alt 8 (.first 9 (.first 10 (.first 11 (.first 12 .done)))) .nil)))))))))], [0, 1, 2, 4, 5, 6, 7, 8, 9, 10, 11, 12, 13, 14, 15, 16, 17, 27, 46, 63, 81, 98, 107, 131], 137⟩ ?_; ((conv => whnf); repeat ((first | refine Wo ?_ | refine Lt (by decide) ?_ | refine Lf (by decide) ?_ | refine Cl (by decide) ?_ | refine Cr (by decide) ?_ | refine ⟨_, rfl, ?_⟩ | refine Mi rfl ?_); (conv => whnf)))
  ((conv => whnf); (refine Hc.flat f0 ?_ rfl ?_; (focus ((repeat ((conv => arg 1; whnf); first | exact Tels.nil | apply Tels.cons | apply Tel.aggs | apply Tel.tups | exact Tel.refl _ | exact Tel.nil1 _ | exact Tel.cap _ _ _ _)); done))); ((conv => whnf); repeat ((first | refine Wo ?_ | refine Lt (by decide) ?_ | refine Lf (by decide) ?_ | refine Cl (by decide) ?_ | refine Cr (by decide) ?_ | refine ⟨_, rfl, ?_⟩ | refine Mi rfl ?_); (conv => whnf))))
  ((conv => whnf); (refine Hc.flat f1 ?_ rfl ?_; (focus ((repeat ((conv => arg 1; whnf); first | exact Tels.nil | apply Tels.cons | apply Tel.aggs | apply Tel.tups | exact Tel.refl _ | exact Tel.nil1 _ | exact Tel.cap _ _ _ _)); done))); ((conv => whnf); repeat ((first | refine Wo ?_ | refine Lt (by decide) ?_ | refine Lf (by decide) ?_ | refine Cl (by decide) ?_ | refine Cr (by decide) ?_ | refine ⟨_, rfl, ?_⟩ | refine Mi rfl ?_); (conv => whnf))))
  refine litE t0 ?_
  ((conv => whnf); repeat ((first | refine Wo ?_ | refine Lt (by decide) ?_ | refine Lf (by decide) ?_ | refine Cl (by decide) ?_ | refine Cr (by decide) ?_ | refine ⟨_, rfl, ?_⟩ | refine Mi rfl ?_); (conv => whnf)))
  ((conv => whnf); (refine Hc.runs m ?_ ?_; (focus ((repeat ((conv => arg 1; whnf); first | exact Tels.nil | apply Tels.cons | apply Tel.aggs | apply Tel.tups | exact Tel.refl _ | exact Tel.nil1 _ | exact Tel.cap _ _ _ _)); done))); ((conv => whnf); repeat ((first | refine Wo ?_ | refine Lt (by decide) ?_ | refine Lf (by decide) ?_ | refine Cl (by decide) ?_ | refine Cr (by decide) ?_ | refine ⟨_, rfl, ?_⟩ | refine Mi rfl ?_); (conv => whnf))))
  ((conv => whnf); (refine Hc.runs m ?_ ?_; (focus ((repeat ((conv => arg 1; whnf); first | exact Tels.nil | apply Tels.cons | apply Tel.aggs | apply Tel.tups | exact Tel.refl _ | exact Tel.nil1 _ | exact Tel.cap _ _ _ _)); done))); ((conv => whnf); repeat ((first | refine Wo ?_ | refine Lt (by decide) ?_ | refine Lf (by decide) ?_ | refine Cl (by decide) ?_ | refine Cr (by decide) ?_ | refine ⟨_, rfl, ?_⟩ | refine Mi rfl ?_); (conv => whnf))))
  ((conv => whnf); (refine Hc.runs st ?_ ?_; (focus ((repeat ((conv => arg 1; whnf); first | exact Tels.nil | apply Tels.cons | apply Tel.aggs | apply Tel.tups | exact Tel.refl _ | exact Tel.nil1 _ | exact Tel.cap _ _ _ _)); done))); ((conv => whnf); repeat ((first | refine Wo ?_ | refine Lt (by decide) ?_ | refine Lf (by decide) ?_ | refine Cl (by decide) ?_ | refine Cr (by decide) ?_ | refine ⟨_, rfl, ?_⟩ | refine Mi rfl ?_); (conv => whnf))))
  ((conv => whnf); (refine Hc.runs st2 ?_ ?_; (focus ((repeat ((conv => arg 1; whnf); first | exact Tels.nil | apply Tels.cons | apply Tel.aggs | apply Tel.tups | exact Tel.refl _ | exact Tel.nil1 _ | exact Tel.cap _ _ _ _)); done))); ((conv => whnf); repeat ((first | refine Wo ?_ | refine Lt (by decide) ?_ | refine Lf (by decide) ?_ | refine Cl (by decide) ?_ | refine Cr (by decide) ?_ | refine ⟨_, rfl, ?_⟩ | refine Mi rfl ?_); (conv => whnf))))
  refine loop_ind (fun k (x : Nat × FrL × FrL) => x.1 + k = f.n.toNat + 1 ∧ (x.1 : Int) ≤ f.n ∧ Fd x.1 x.2.1 x.2.2 ∧ x.2.1.n = f.n ∧ x.2.1.fold = fold) (fun x => foQ ops fold ins x.2.1 x.2.2 x.1 []) (fun x h => by have := hfd.fo.n1; omega) ?_ (f.n.toNat + 1) (0, f, g) ⟨by simp, by have := hfd.fo.n1; simp; omega, hfd, rfl, hff⟩ _ ?_
  · rintro k ⟨i, f', g'⟩ R ih ⟨hk, hi, hg, hn, hgf⟩
    dsimp only at *
    unfold foQ frB
    obtain ⟨s1, s2, s3, s4, s5, s6, s7, s8⟩ := step_full hg.fo
    obtain ⟨r1, r2, r3, r4, r5, r6, r7, r8⟩ := step_full hg.go
    have hfk := hg.fk
    have hn2 := hg.fo.n2
    by_cases hd : f'.n ≤ f'.k
    · have t1 : decide ((i : Int) < f'.n) = false := by rw [decide_eq_false_iff_not]; omega
      ((conv => whnf); repeat ((first | refine Wo ?_ | refine Lt (by decide) ?_ | refine Lf (by decide) ?_ | refine Cl (by decide) ?_ | refine Cr (by decide) ?_ | refine ⟨_, rfl, ?_⟩ | refine Mi rfl ?_); (conv => whnf)))
      refine litE t1 ?_
      ((conv => whnf); repeat ((first | refine Wo ?_ | refine Lt (by decide) ?_ | refine Lf (by decide) ?_ | refine Cl (by decide) ?_ | refine Cr (by decide) ?_ | refine ⟨_, rfl, ?_⟩ | refine Mi rfl ?_); (conv => whnf)))
      ((conv => whnf); ((repeat ((conv => arg 1; whnf); first | exact Tels.nil | apply Tels.cons | apply Tel.aggs | apply Tel.tups | exact Tel.refl _ | exact Tel.nil1 _ | exact Tel.cap _ _ _ _)); done))
    · have t1 : decide ((i : Int) < f'.n) = true := by rw [decide_eq_true_iff]; omega
      rcases fd_step hg hd with he | ⟨he, he2, hFd⟩
      · generalize (stepF f').2 = e at *
        have t2 : (!(e == 0)) = true := by simpa using he
        ((conv => whnf); repeat ((first | refine Wo ?_ | refine Lt (by decide) ?_ | refine Lf (by decide) ?_ | refine Cl (by decide) ?_ | refine Cr (by decide) ?_ | refine ⟨_, rfl, ?_⟩ | refine Mi rfl ?_); (conv => whnf)))
        refine litE t1 ?_
        ((conv => whnf); repeat ((first | refine Wo ?_ | refine Lt (by decide) ?_ | refine Lf (by decide) ?_ | refine Cl (by decide) ?_ | refine Cr (by decide) ?_ | refine ⟨_, rfl, ?_⟩ | refine Mi rfl ?_); (conv => whnf)))
        ((conv => whnf); (refine Hc.runs s1 ?_ ?_; (focus ((repeat ((conv => arg 1; whnf); first | exact Tels.nil | apply Tels.cons | apply Tel.aggs | apply Tel.tups | exact Tel.refl _ | exact Tel.nil1 _ | exact Tel.cap _ _ _ _)); done))); ((conv => whnf); repeat ((first | refine Wo ?_ | refine Lt (by decide) ?_ | refine Lf (by decide) ?_ | refine Cl (by decide) ?_ | refine Cr (by decide) ?_ | refine ⟨_, rfl, ?_⟩ | refine Mi rfl ?_); (conv => whnf))))
        ((conv => whnf); (refine Hc.runs r1 ?_ ?_; (focus ((repeat ((conv => arg 1; whnf); first | exact Tels.nil | apply Tels.cons | apply Tel.aggs | apply Tel.tups | exact Tel.refl _ | exact Tel.nil1 _ | exact Tel.cap _ _ _ _)); done))); ((conv => whnf); repeat ((first | refine Wo ?_ | refine Lt (by decide) ?_ | refine Lf (by decide) ?_ | refine Cl (by decide) ?_ | refine Cr (by decide) ?_ | refine ⟨_, rfl, ?_⟩ | refine Mi rfl ?_); (conv => whnf))))
        refine litE t2 ?_
        ((conv => whnf); repeat ((first | refine Wo ?_ | refine Lt (by decide) ?_ | refine Lf (by decide) ?_ | refine Cl (by decide) ?_ | refine Cr (by decide) ?_ | refine ⟨_, rfl, ?_⟩ | refine Mi rfl ?_); (conv => whnf)))
        refine litE t2 ?_
        ((conv => whnf); repeat ((first | refine Wo ?_ | refine Lt (by decide) ?_ | refine Lf (by decide) ?_ | refine Cl (by decide) ?_ | refine Cr (by decide) ?_ | refine ⟨_, rfl, ?_⟩ | refine Mi rfl ?_); (conv => whnf)))
        ((conv => whnf); ((repeat ((conv => arg 1; whnf); first | exact Tels.nil | apply Tels.cons | apply Tel.aggs | apply Tel.tups | exact Tel.refl _ | exact Tel.nil1 _ | exact Tel.cap _ _ _ _)); done))
      · rw [he] at s1
        rw [he2] at r1
        generalize (stepF f').1 = F at *
        generalize (stepF g').1 = G at *
        have hFk := hFd.fk
        have hGo := (hFd.go.ol hFd.gf).1
        have hGk := hFd.gk
        have t3 : (!(((G.out.length : Nat) : Int) == IntKind.i64.wrap ((i : Int) + 1))) = false := by rw [i64w (by omega) (by omega)]; simp; omega
        have hFf : F.fold = fold := by rw [s5]; exact hgf
        obtain ⟨h1, t, ho, ha, hok, hmb⟩ : ∃ h t, G.out = h :: t ∧ F.acc = foldA F.fold h t ∧ okA F.fold h t ∧ ∀ b ∈ G.out, mayB b = true := by
          rcases hFd.ch with ⟨h, _⟩ | h
          · omega
          · exact h
        have hox : (G.out.map sD)[(0 : Int).toNat * 1]? = some (sD h1) := by rw [ho]; rfl
        have hlt0 : (0 : Int) < ((G.out.length : Nat) : Int) := by rw [ho]; simp
        have hlen : G.out.length = t.length + 1 := by rw [ho]; rfl
        have hG4 := hFd.go.outl
        have hm1 : mayB h1 = true := hmb h1 (by rw [ho]; simp)
        have hmt : ∀ b ∈ t, mayB b = true := fun b hb => hmb b (by rw [ho]; simp [hb])
        have hFout := hFd.fo.ou hFd.ff
        have hdy := hFd.fo.dyad hFd.ff
        rw [hFf] at hdy ha hok
        ((conv => whnf); repeat ((first | refine Wo ?_ | refine Lt (by decide) ?_ | refine Lf (by decide) ?_ | refine Cl (by decide) ?_ | refine Cr (by decide) ?_ | refine ⟨_, rfl, ?_⟩ | refine Mi rfl ?_); (conv => whnf)))
        refine litE t1 ?_
        ((conv => whnf); repeat ((first | refine Wo ?_ | refine Lt (by decide) ?_ | refine Lf (by decide) ?_ | refine Cl (by decide) ?_ | refine Cr (by decide) ?_ | refine ⟨_, rfl, ?_⟩ | refine Mi rfl ?_); (conv => whnf)))
        ((conv => whnf); (refine Hc.runs s1 ?_ ?_; (focus ((repeat ((conv => arg 1; whnf); first | exact Tels.nil | apply Tels.cons | apply Tel.aggs | apply Tel.tups | exact Tel.refl _ | exact Tel.nil1 _ | exact Tel.cap _ _ _ _)); done))); ((conv => whnf); repeat ((first | refine Wo ?_ | refine Lt (by decide) ?_ | refine Lf (by decide) ?_ | refine Cl (by decide) ?_ | refine Cr (by decide) ?_ | refine ⟨_, rfl, ?_⟩ | refine Mi rfl ?_); (conv => whnf))))
        ((conv => whnf); (refine Hc.runs r1 ?_ ?_; (focus ((repeat ((conv => arg 1; whnf); first | exact Tels.nil | apply Tels.cons | apply Tel.aggs | apply Tel.tups | exact Tel.refl _ | exact Tel.nil1 _ | exact Tel.cap _ _ _ _)); done))); ((conv => whnf); repeat ((first | refine Wo ?_ | refine Lt (by decide) ?_ | refine Lf (by decide) ?_ | refine Cl (by decide) ?_ | refine Cr (by decide) ?_ | refine ⟨_, rfl, ?_⟩ | refine Mi rfl ?_); (conv => whnf))))
        refine litE t3 ?_
        ((conv => whnf); repeat ((first | refine Wo ?_ | refine Lt (by decide) ?_ | refine Lf (by decide) ?_ | refine Cl (by decide) ?_ | refine Cr (by decide) ?_ | refine ⟨_, rfl, ?_⟩ | refine Mi rfl ?_); (conv => whnf)))
        refine ⟨by decide, hlt0, ?_⟩
        ((conv => whnf); repeat ((first | refine Wo ?_ | refine Lt (by decide) ?_ | refine Lf (by decide) ?_ | refine Cl (by decide) ?_ | refine Cr (by decide) ?_ | refine ⟨_, rfl, ?_⟩ | refine Mi rfl ?_); (conv => whnf)))
        refine ⟨_, hox, ?_⟩
        ((conv => whnf); repeat ((first | refine Wo ?_ | refine Lt (by decide) ?_ | refine Lf (by decide) ?_ | refine Cl (by decide) ?_ | refine Cr (by decide) ?_ | refine ⟨_, rfl, ?_⟩ | refine Mi rfl ?_); (conv => whnf)))
        refine loop_ind (fun k (j : Nat) => j + k = t.length + 1 ∧ j ≤ t.length) (fun j => foQ ops fold ins F G i [(16, .d (sD (foldA fold h1 (t.take j)))), (17, .d (iD (j + 1 : Nat)))]) (fun j h => by omega) ?_ (t.length + 1) 0 ⟨by omega, by omega⟩ _ ?_
        · rintro k2 j R2 ih2 ⟨hk2, hj⟩
          unfold foQ frB
          by_cases hlt : j < t.length
          · have t4 : decide (((j + 1 : Nat) : Int) < (G.out.length : Int)) = true := by rw [decide_eq_true_iff]; omega
            have hoj : (G.out.map sD)[((j + 1 : Nat) : Int).toNat * 1]? = some (sD t[j]) := ixm (j := j + 1) (by rw [ho]; simp [hlt]) (by simp)
            have hD := sd_runs hdy (okA_may hm1 hmt hok j) (hmt t[j] (List.getElem_mem hlt))
            have hft := foldA_take (op := fold) (a := h1) hlt
            ((conv => whnf); repeat ((first | refine Wo ?_ | refine Lt (by decide) ?_ | refine Lf (by decide) ?_ | refine Cl (by decide) ?_ | refine Cr (by decide) ?_ | refine ⟨_, rfl, ?_⟩ | refine Mi rfl ?_); (conv => whnf)))
            refine litE t4 ?_
            ((conv => whnf); repeat ((first | refine Wo ?_ | refine Lt (by decide) ?_ | refine Lf (by decide) ?_ | refine Cl (by decide) ?_ | refine Cr (by decide) ?_ | refine ⟨_, rfl, ?_⟩ | refine Mi rfl ?_); (conv => whnf)))
            (refine And.intro (by decide +kernel) ?_; apply Exists.intro; apply And.intro; focus ((repeat' ((conv => whnf); first | exact trivial | refine Wo ?_ | refine Lt (by decide) ?_ | refine Lf (by decide) ?_ | refine Cl (by decide) ?_ | refine Cr (by decide) ?_ | refine ⟨_, rfl, ?_⟩ | refine Mi rfl ?_ | (first | refine And.intro (show (0 : Int) ≤ ((j + 1 : Nat) : Int) by omega) ?_ | refine And.intro (show ((j + 1 : Nat) : Int) < (G.out.length : Int) by omega) ?_ | refine ⟨_, hoj, ?_⟩ | (refine Hc.flat hD ?_ rfl ?_; (focus ((repeat ((conv => arg 1; whnf); first | exact Tels.nil | apply Tels.cons | apply Tel.aggs | apply Tel.tups | exact Tel.refl _ | exact Tel.nil1 _ | exact Tel.cap _ _ _ _)); done)))) | (refine And.intro ?_ ?_))); all_goals (first | ((conv => whnf); exact Wk.frc (keep := [0, 1, 2, 4, 5, 6, 7, 8, 9, 10, 11, 12, 13, 14, 15, 16, 17, 27, 46, 63, 81, 98, 107, 131]) (N := 137) (by (conv => whnf); first | done | exact rfl)) | (first | decide | rfl | assumption | omega | (dsimp only; omega) | (unfold maxLen; omega) | ((try dsimp only [maxLen]); simp only [List.length_append, List.length_cons, List.length_nil, List.length_map, List.length_range, List.length_set, List.length_replicate]; omega) | ((try dsimp only [maxLen]); simp only [IntKind.wrap_i64, IntKind.wrap_u64, List.length_append, List.length_cons, List.length_nil, List.length_map, List.length_range, List.length_set, List.length_replicate]; omega) | ((try dsimp only [maxLen]); simp only [List.length_append, List.length_cons, List.length_nil, List.length_map, List.length_range, List.length_set, List.length_replicate] at *; omega)))))
            ((conv => whnf); repeat ((first | refine Wo ?_ | refine Lt (by decide) ?_ | refine Lf (by decide) ?_ | refine Cl (by decide) ?_ | refine Cr (by decide) ?_ | refine ⟨_, rfl, ?_⟩ | refine Mi rfl ?_); (conv => whnf)))
            refine ih2 (j + 1) _ ⟨by omega, by omega⟩ ?_
            rw [hft]
            unfold foQ frB
            (refine Wk.pin [0, 1, 2, 3] _ _ ?_ ?_ rfl rfl (by decide) rfl rfl <;> (repeat' first | exact trivial | rfl | (refine And.intro ?_ ?_)))
            exact inE (i64n (by omega) (by omega))
          · have t4 : decide (((j + 1 : Nat) : Int) < (G.out.length : Int)) = false := by rw [decide_eq_false_iff_not]; omega
            have t5 : (!(F.acc.toList == (foldA fold h1 (t.take j)).toList)) = false := by rw [beqB, List.take_of_length_le (by omega), ← ha]; simp
            have t6 : (!(((F.out.length : Nat) : Int) == 0)) = false := by rw [hFout]; rfl
            ((conv => whnf); repeat ((first | refine Wo ?_ | refine Lt (by decide) ?_ | refine Lf (by decide) ?_ | refine Cl (by decide) ?_ | refine Cr (by decide) ?_ | refine ⟨_, rfl, ?_⟩ | refine Mi rfl ?_); (conv => whnf)))
            refine litE t4 ?_
            ((conv => whnf); repeat ((first | refine Wo ?_ | refine Lt (by decide) ?_ | refine Lf (by decide) ?_ | refine Cl (by decide) ?_ | refine Cr (by decide) ?_ | refine ⟨_, rfl, ?_⟩ | refine Mi rfl ?_); (conv => whnf)))
            refine litE t5 ?_
            ((conv => whnf); repeat ((first | refine Wo ?_ | refine Lt (by decide) ?_ | refine Lf (by decide) ?_ | refine Cl (by decide) ?_ | refine Cr (by decide) ?_ | refine ⟨_, rfl, ?_⟩ | refine Mi rfl ?_); (conv => whnf)))
            refine litE t6 ?_
            ((conv => whnf); repeat ((first | refine Wo ?_ | refine Lt (by decide) ?_ | refine Lf (by decide) ?_ | refine Cl (by decide) ?_ | refine Cr (by decide) ?_ | refine ⟨_, rfl, ?_⟩ | refine Mi rfl ?_); (conv => whnf)))
            refine ih (i + 1, F, G) _ ⟨by dsimp only; omega, by dsimp only; omega, hFd, by rw [s7]; exact hn, hFf⟩ ?_
            unfold foQ frB
            (refine Wk.pin [0, 1, 2, 3] _ _ ?_ ?_ rfl rfl (by decide) rfl rfl <;> (repeat' first | exact trivial | rfl | (refine And.intro ?_ ?_)))
            exact inE (i64n (by simp) (by omega))
        · unfold foQ frB
          (refine Wk.pin [0, 1, 2, 3] _ _ ?_ ?_ rfl rfl (by decide) rfl rfl <;> (repeat' first | exact trivial | rfl | (refine And.intro ?_ ?_)))
  · unfold foQ frB
    (refine Wk.pin [0, 1, 2, 3] _ _ ?_ ?_ rfl rfl (by decide) rfl rfl <;> (repeat' first | exact trivial | rfl | (refine And.intro ?_ ?_)))
end
theorem start_bare (ops : List OpL) (fold : ByteArray) (ins : List ValL) : (startF ops fold ins).2 = 1 ∨ ((startF ops ByteArray.empty ins).2 = (startF ops fold ins).2 ∧ ((startF ops fold ins).2 = 0 → (startF ops ByteArray.empty ins).1 = { (startF ops fold ins).1 with fold := ByteArray.empty })) := by
  by_cases hc : mayC ops fold ins.length = true ∧ (ins.any fun v => !good v.1 v.2) = false
  · right
    have hc2 : mayC ops ByteArray.empty ins.length = true ∧ (ins.any fun v => !good v.1 v.2) = false := by
      refine ⟨?_, hc.2⟩
      have h := hc.1
      unfold mayC at h ⊢
      simp only [Bool.and_eq_true] at h ⊢
      exact ⟨⟨h.1.1, by kernel_rfl⟩, h.2⟩
    unfold startF
    rw [if_pos hc, if_pos hc2]
    split
    · exact ⟨rfl, fun h => absurd (show (3 : Int) = 0 from h) (by decide)⟩
    · rename_i n bad hs
      by_cases hb : bad = 0
      · subst hb
        have hz : ¬ ((0 : Int) ≠ 0) := by decide
        rw [if_neg hz, if_neg hz]
        by_cases hn : n = 0
        · rw [if_pos hn, if_pos hn]
          exact ⟨rfl, fun h => absurd (show (5 : Int) = 0 from h) (by decide)⟩
        · rw [if_neg hn, if_neg hn]
          exact ⟨rfl, fun _ => rfl⟩
      · rw [if_pos hb, if_pos hb]
        exact ⟨rfl, fun h => absurd h hb⟩
  · left
    unfold startF
    rw [if_neg hc]
theorem FrameFold_runs (ops : List OpL) (fold : ByteArray) (ins : List ValL) (ho : ops.length ≤ 9223372036854775807) (hi : ins.length ≤ 9223372036854775807) (hb : ∀ v ∈ ins, v.1.length ≤ 9223372036854775807 ∧ v.2.length ≤ 9223372036854775807) : Runs Tryz.prog 9 [cD ops fold, rV ins] (bD true) := by
  have f1 := few20_runs ops fold ins ho hi hb
  cases hf : few20 ops ins with
  | false => rw [hf] at f1; exact fold_no f1
  | true =>
    rw [hf] at f1
    by_cases h0 : fold = ByteArray.empty
    · exact fold_no2 h0 f1
    · obtain ⟨b1, b2, b3⟩ := few20_of hf
      have hb' : ∀ v ∈ ins, v.1.length ≤ 100000000 ∧ v.2.length ≤ 100000000 := fun v hv => by have := b3 v hv; omega
      have m := made_runs ops fold (by omega)
      have st := start_runs ops fold ins (by omega) (by omega) hb'
      have st2 := start_runs ops ByteArray.empty ins (by omega) (by omega) hb'
      have hbare := start_bare ops fold ins
      by_cases he : (startF ops fold ins).2 = 0
      · obtain ⟨h2, h3⟩ := hbare.resolve_left (by rw [he]; decide)
        have he2 := h2.trans he
        obtain ⟨ok, e1, e2, e3, e4, e5, e6, e7, n, e8, e9, e10, e11⟩ := start_ok (by omega) hb' he
        obtain ⟨ok2, g1, g2, g3, g4, g5, g6, g7, m2, g8, g9, g10, g11⟩ := start_ok (ops := ops) (fold := ByteArray.empty) (by omega) hb' he2
        rw [he] at st
        rw [he2] at st2
        refine fold_go h0 ⟨ok, ok2, e4, g4, ?_, by rw [e2]; exact h0, g2, e1.trans g1.symm, e3.trans g3.symm, .inl ⟨rfl, g5⟩⟩ e2 f1 m st st2
        rw [h3 he]
      · exact fold_err h0 he (hbare.elim .inr fun h => .inl h.1.symm) f1 m st st2
end Go.Proofs.YtjldjhlccedkbaaGreatDoor.Am
end
