/- What the law leans on, part 27: declarations of several texts of ours, in their order. -/
import Derived.Test.YtkhgpnbhnipndaaGreatDoorXFS12
import Derived.Test.YtkhgpnbhnipndaaGreatDoorXFS25
section
/- Rows, searched and compared. -/
namespace Go.Proofs.YtkhgpnbhnipndaaGreatDoor.Am
open Go Go.RowKit Go.Proofs.YtkhgpnbhnipndaaGreatDoor.Sh
set_option linter.unusedVariables false
set_option linter.unusedSimpArgs false
set_option maxRecDepth 100000
set_option maxHeartbeats 8000000
def idxI {α : Type} (p : α → Bool) : List α → Nat → Int
  | [], _ => -1
  | x :: l, i => if p x = true then i else idxI p l (i + 1)
theorem idxI_any {α : Type} (p : α → Bool) : ∀ (l : List α) (i : Nat), decide (idxI p l i ≥ 0) = l.any p
  | [], i => by simp [idxI]
  | x :: l, i => by
    unfold idxI
    by_cases h : p x = true
    · rw [if_pos h]; simp [h]
    · rw [if_neg h, idxI_any p l (i + 1)]; simp [h]
theorem take_snoc {α : Type} {l : List α} {i : Nat} (h : i < l.length) : l.take (i + 1) = l.take i ++ [l[i]] := by rw [List.take_add_one, List.getElem?_eq_getElem h]; rfl
theorem take_eq_snoc {α : Type} {a b : List α} {i : Nat} (ha : i < a.length) (hb : i < b.length) (h : a.take i = b.take i) (he : a[i] = b[i]) : a.take (i + 1) = b.take (i + 1) := by rw [take_snoc ha, take_snoc hb, h, he]
theorem indexFI_runs {l : List Int} {p : Int → Bool} {F : Nat} (hl : l.length ≤ 9223372036854775807) (hF : ∀ x ∈ l, Runs Tryz.prog F [iD x] (bD (p x))) : Runs Tryz.prog 190 [rI l none, .fn F []] (iD (idxI p l 0)) := by
  refine Runs.wp Am.hT Am.hm Tryz.func190 rfl (by decide) ⟨[], [0, 1, 4, 5, 7, 8, 9, 16], 19⟩ ?_; ((conv => whnf); repeat (refine Gq ?_; (conv => whnf)))
  refine loop_ind (fun k (i : Nat) => i + k = l.length + 1 ∧ i ≤ l.length ∧ idxI p l 0 = idxI p (l.drop i) i) (fun i => { t := pin [(0, .d (rI l none)), (1, .d (.fn F [])), (7, .d (iD l.length)), (8, .d (iD i))], N := 19, h := hpin [], n := 0, lo := 0 }) (fun i h => by omega) ?_ (l.length + 1) 0 ⟨by omega, by omega, rfl⟩ _ ?_
  · rintro k i R ih ⟨hk, hi, he⟩
    by_cases hlt : i < l.length
    · have hd : l.drop i = l[i] :: l.drop (i + 1) := List.drop_eq_getElem_cons hlt
      have hx := hF l[i] (List.getElem_mem hlt)
      rw [hd, idxI] at he
      rcases Bool.eq_false_or_eq_true (p l[i]) with hp | hp
      · rw [if_pos hp] at he
        rw [he]
        rw [hp] at hx
        ((conv => whnf); repeat (refine Gq ?_; (conv => whnf)))
        refine Lt (by simpa using hlt) ?_
        ((conv => whnf); repeat ((first | refine Wo ?_ | refine Lt (by decide) ?_ | refine Lf (by decide) ?_ | refine Cl (by decide) ?_ | refine Cr (by decide) ?_ | refine ⟨_, rfl, ?_⟩ | refine Mi rfl ?_ | (refine And.intro ArA ?_)); (conv => whnf)))
        ((conv => whnf); refine ⟨_, ixm (j := i) (x := l[i]) (by simp [hlt]) (by simp), ?_⟩; ((conv => whnf); repeat (refine Gq ?_; (conv => whnf))))
        ((conv => whnf); (refine HfA hx ?_); ((conv => whnf); repeat (refine Gq ?_; (conv => whnf))))
        exact TeA
      · rw [hp, if_neg (by decide)] at he
        rw [hp] at hx
        ((conv => whnf); repeat (refine Gq ?_; (conv => whnf)))
        refine Lt (by simpa using hlt) ?_
        ((conv => whnf); repeat ((first | refine Wo ?_ | refine Lt (by decide) ?_ | refine Lf (by decide) ?_ | refine Cl (by decide) ?_ | refine Cr (by decide) ?_ | refine ⟨_, rfl, ?_⟩ | refine Mi rfl ?_ | (refine And.intro ArA ?_)); (conv => whnf)))
        ((conv => whnf); refine ⟨_, ixm (j := i) (x := l[i]) (by simp [hlt]) (by simp), ?_⟩; ((conv => whnf); repeat (refine Gq ?_; (conv => whnf))))
        ((conv => whnf); (refine HfA hx ?_); ((conv => whnf); repeat (refine Gq ?_; (conv => whnf))))
        refine ih (i + 1) _ ⟨by omega, by omega, he⟩ ?_
        (refine Wk.to _ _ ?_ ?_ <;> (repeat' first | exact trivial | rfl | (refine And.intro ?_ ?_)))
        exact inE (i64n (by simp) (by omega))
    · rw [List.drop_eq_nil_of_le (by omega), idxI] at he
      rw [he]
      ((conv => whnf); repeat (refine Gq ?_; (conv => whnf)))
      refine Lf (by simpa using hlt) ?_
      ((conv => whnf); repeat (refine Gq ?_; (conv => whnf)))
      exact TeA
  · (refine Wk.to _ _ ?_ ?_ <;> (repeat' first | exact trivial | rfl | (refine And.intro ?_ ?_)))
theorem contFI_runs {l : List Int} {p : Int → Bool} {F : Nat} (hl : l.length ≤ 9223372036854775807) (hF : ∀ x ∈ l, Runs Tryz.prog F [iD x] (bD (p x))) : Runs Tryz.prog 133 [rI l none, .fn F []] (bD (l.any p)) := by
  have h1 := indexFI_runs hl hF
  have h2 := idxI_any p l 0
  refine Runs.wp Am.hT Am.hm Tryz.func133 rfl (by decide) ⟨[], [0, 1, 4], 9⟩ ?_; ((conv => whnf); repeat (refine Gq ?_; (conv => whnf)))
  ((conv => whnf); (refine HfA h1 ?_); ((conv => whnf); repeat (refine Gq ?_; (conv => whnf))))
  refine litE h2 ?_
  ((conv => whnf); repeat (refine Gq ?_; (conv => whnf)))
  exact TeA
theorem indexFS_runs {l : List ByteArray} {p : ByteArray → Bool} {F : Nat} (hl : l.length ≤ 9223372036854775807) (hF : ∀ x ∈ l, Runs Tryz.prog F [sD x] (bD (p x))) : Runs Tryz.prog 136 [rS l none, .fn F []] (iD (idxI p l 0)) := by
  refine Runs.wp Am.hT Am.hm Tryz.func136 rfl (by decide) ⟨[], [0, 1, 4, 5, 7, 8, 9, 16], 19⟩ ?_; ((conv => whnf); repeat (refine Gq ?_; (conv => whnf)))
  refine loop_ind (fun k (i : Nat) => i + k = l.length + 1 ∧ i ≤ l.length ∧ idxI p l 0 = idxI p (l.drop i) i) (fun i => { t := pin [(0, .d (rS l none)), (1, .d (.fn F [])), (7, .d (iD l.length)), (8, .d (iD i))], N := 19, h := hpin [], n := 0, lo := 0 }) (fun i h => by omega) ?_ (l.length + 1) 0 ⟨by omega, by omega, rfl⟩ _ ?_
  · rintro k i R ih ⟨hk, hi, he⟩
    by_cases hlt : i < l.length
    · have hd : l.drop i = l[i] :: l.drop (i + 1) := List.drop_eq_getElem_cons hlt
      have hx := hF l[i] (List.getElem_mem hlt)
      rw [hd, idxI] at he
      rcases Bool.eq_false_or_eq_true (p l[i]) with hp | hp
      · rw [if_pos hp] at he
        rw [he]
        rw [hp] at hx
        ((conv => whnf); repeat (refine Gq ?_; (conv => whnf)))
        refine Lt (by simpa using hlt) ?_
        ((conv => whnf); repeat ((first | refine Wo ?_ | refine Lt (by decide) ?_ | refine Lf (by decide) ?_ | refine Cl (by decide) ?_ | refine Cr (by decide) ?_ | refine ⟨_, rfl, ?_⟩ | refine Mi rfl ?_ | (refine And.intro ArA ?_)); (conv => whnf)))
        ((conv => whnf); refine ⟨_, ixm (j := i) (x := l[i]) (by simp [hlt]) (by simp), ?_⟩; ((conv => whnf); repeat (refine Gq ?_; (conv => whnf))))
        ((conv => whnf); (refine HfA hx ?_); ((conv => whnf); repeat (refine Gq ?_; (conv => whnf))))
        exact TeA
      · rw [hp, if_neg (by decide)] at he
        rw [hp] at hx
        ((conv => whnf); repeat (refine Gq ?_; (conv => whnf)))
        refine Lt (by simpa using hlt) ?_
        ((conv => whnf); repeat ((first | refine Wo ?_ | refine Lt (by decide) ?_ | refine Lf (by decide) ?_ | refine Cl (by decide) ?_ | refine Cr (by decide) ?_ | refine ⟨_, rfl, ?_⟩ | refine Mi rfl ?_ | (refine And.intro ArA ?_)); (conv => whnf)))
        ((conv => whnf); refine ⟨_, ixm (j := i) (x := l[i]) (by simp [hlt]) (by simp), ?_⟩; ((conv => whnf); repeat (refine Gq ?_; (conv => whnf))))
        ((conv => whnf); (refine HfA hx ?_); ((conv => whnf); repeat (refine Gq ?_; (conv => whnf))))
        refine ih (i + 1) _ ⟨by omega, by omega, he⟩ ?_
        (refine Wk.to _ _ ?_ ?_ <;> (repeat' first | exact trivial | rfl | (refine And.intro ?_ ?_)))
        exact inE (i64n (by simp) (by omega))
    · rw [List.drop_eq_nil_of_le (by omega), idxI] at he
      rw [he]
      ((conv => whnf); repeat (refine Gq ?_; (conv => whnf)))
      refine Lf (by simpa using hlt) ?_
      ((conv => whnf); repeat (refine Gq ?_; (conv => whnf)))
      exact TeA
  · (refine Wk.to _ _ ?_ ?_ <;> (repeat' first | exact trivial | rfl | (refine And.intro ?_ ?_)))
theorem contFS_runs {l : List ByteArray} {p : ByteArray → Bool} {F : Nat} (hl : l.length ≤ 9223372036854775807) (hF : ∀ x ∈ l, Runs Tryz.prog F [sD x] (bD (p x))) : Runs Tryz.prog 72 [rS l none, .fn F []] (bD (l.any p)) := by
  have h1 := indexFS_runs hl hF
  have h2 := idxI_any p l 0
  refine Runs.wp Am.hT Am.hm Tryz.func72 rfl (by decide) ⟨[], [0, 1, 4], 9⟩ ?_; ((conv => whnf); repeat (refine Gq ?_; (conv => whnf)))
  ((conv => whnf); (refine HfA h1 ?_); ((conv => whnf); repeat (refine Gq ?_; (conv => whnf))))
  refine litE h2 ?_
  ((conv => whnf); repeat (refine Gq ?_; (conv => whnf)))
  exact TeA
theorem indexI_runs {l : List Int} {z : Int} (hl : l.length ≤ 9223372036854775807) : Runs Tryz.prog 119 [rI l none, iD z] (iD (idxI (fun x => z == x) l 0)) := by
  refine Runs.wp Am.hT Am.hm Tryz.func119 rfl (by decide) ⟨[], [0, 1, 4, 5, 7, 8, 9, 16], 19⟩ ?_; ((conv => whnf); repeat (refine Gq ?_; (conv => whnf)))
  refine loop_ind (fun k (i : Nat) => i + k = l.length + 1 ∧ i ≤ l.length ∧ idxI (fun x => z == x) l 0 = idxI (fun x => z == x) (l.drop i) i) (fun i => { t := pin [(0, .d (rI l none)), (1, .d (iD z)), (7, .d (iD l.length)), (8, .d (iD i))], N := 19, h := hpin [], n := 0, lo := 0 }) (fun i h => by omega) ?_ (l.length + 1) 0 ⟨by omega, by omega, rfl⟩ _ ?_
  · rintro k i R ih ⟨hk, hi, he⟩
    by_cases hlt : i < l.length
    · have hd : l.drop i = l[i] :: l.drop (i + 1) := List.drop_eq_getElem_cons hlt
      rw [hd, idxI] at he
      have hix : (l.map iD)[(i : Int).toNat * 1]? = some (iD l[i]) := ixm (j := i) (by simp [hlt]) (by simp)
      rcases Bool.eq_false_or_eq_true (z == l[i]) with hp | hp
      · rw [if_pos hp] at he
        rw [he]
        ((conv => whnf); repeat (refine Gq ?_; (conv => whnf)))
        refine Lt (by simpa using hlt) ?_
        ((conv => whnf); repeat ((first | refine Wo ?_ | refine Lt (by decide) ?_ | refine Lf (by decide) ?_ | refine Cl (by decide) ?_ | refine Cr (by decide) ?_ | refine ⟨_, rfl, ?_⟩ | refine Mi rfl ?_ | (refine And.intro ArA ?_)); (conv => whnf)))
        ((conv => whnf); refine ⟨_, hix, ?_⟩; ((conv => whnf); repeat (refine Gq ?_; (conv => whnf))))
        refine litE hp ?_
        ((conv => whnf); repeat (refine Gq ?_; (conv => whnf)))
        exact TeA
      · rw [hp, if_neg (by decide)] at he
        ((conv => whnf); repeat (refine Gq ?_; (conv => whnf)))
        refine Lt (by simpa using hlt) ?_
        ((conv => whnf); repeat ((first | refine Wo ?_ | refine Lt (by decide) ?_ | refine Lf (by decide) ?_ | refine Cl (by decide) ?_ | refine Cr (by decide) ?_ | refine ⟨_, rfl, ?_⟩ | refine Mi rfl ?_ | (refine And.intro ArA ?_)); (conv => whnf)))
        ((conv => whnf); refine ⟨_, hix, ?_⟩; ((conv => whnf); repeat (refine Gq ?_; (conv => whnf))))
        refine litE hp ?_
        ((conv => whnf); repeat (refine Gq ?_; (conv => whnf)))
        refine ih (i + 1) _ ⟨by omega, by omega, he⟩ ?_
        (refine Wk.to _ _ ?_ ?_ <;> (repeat' first | exact trivial | rfl | (refine And.intro ?_ ?_)))
        exact inE (i64n (by simp) (by omega))
    · rw [List.drop_eq_nil_of_le (by omega), idxI] at he
      rw [he]
      ((conv => whnf); repeat (refine Gq ?_; (conv => whnf)))
      refine Lf (by simpa using hlt) ?_
      ((conv => whnf); repeat (refine Gq ?_; (conv => whnf)))
      exact TeA
  · (refine Wk.to _ _ ?_ ?_ <;> (repeat' first | exact trivial | rfl | (refine And.intro ?_ ?_)))
theorem contI_runs {l : List Int} {z : Int} (hl : l.length ≤ 9223372036854775807) : Runs Tryz.prog 63 [rI l none, iD z] (bD (l.any (fun x => z == x))) := by
  have h1 := indexI_runs (z := z) hl
  have h2 := idxI_any (fun x => z == x) l 0
  refine Runs.wp Am.hT Am.hm Tryz.func63 rfl (by decide) ⟨[], [0, 1, 4], 9⟩ ?_; ((conv => whnf); repeat (refine Gq ?_; (conv => whnf)))
  ((conv => whnf); (refine HfA h1 ?_); ((conv => whnf); repeat (refine Gq ?_; (conv => whnf))))
  refine litE h2 ?_
  ((conv => whnf); repeat (refine Gq ?_; (conv => whnf)))
  exact TeA
theorem bne_of {a b : ByteArray} (h : a ≠ b) : (a.toList == b.toList) = false := by
  rw [beq_eq_false_iff_ne]
  intro e
  rw [Go.Proofs.YtkhgpnbhnipndaaGreatDoor.Nm.ba_of a, Go.Proofs.YtkhgpnbhnipndaaGreatDoor.Nm.ba_of b, Go.Proofs.YtkhgpnbhnipndaaGreatDoor.Nm.ba_list, Go.Proofs.YtkhgpnbhnipndaaGreatDoor.Nm.ba_list] at e
  exact h (by rw [Go.Proofs.YtkhgpnbhnipndaaGreatDoor.Nm.ba_of a, Go.Proofs.YtkhgpnbhnipndaaGreatDoor.Nm.ba_of b, e])
end Go.Proofs.YtkhgpnbhnipndaaGreatDoor.Am
end
section
/- Shapes: their sizes, two together, their items. -/
namespace Go.Proofs.YtkhgpnbhnipndaaGreatDoor.Am
open Go Go.RowKit Go.Proofs.YtkhgpnbhnipndaaGreatDoor.Sh
set_option linter.unusedVariables false
set_option linter.unusedSimpArgs false
set_option maxRecDepth 100000
set_option maxHeartbeats 8000000
theorem Tel.eq {x y : D} (h : x = y) : Tel x y := h ▸ .refl _
theorem dslE {z n n' : Nat} {l l' : List D} {c : Option Nat} (h1 : l = l') (h2 : n = n') : D.sl z l n c = D.sl z l' n' c := by subst h1 h2; rfl
theorem size1_runs (x : Int) : Runs Tryz.prog 134 [iD x] (bD (decide (x < 0))) := by
  refine Runs.wp Am.hT Am.hm Tryz.func134 rfl (by decide) ⟨[], [0, 2], 5⟩ ?_; ((conv => whnf); repeat (refine Gq ?_; (conv => whnf)))
  refine litE rfl ?_
  ((conv => whnf); repeat (refine Gq ?_; (conv => whnf)))
  exact TeA
theorem size2_runs (x : Int) : Runs Tryz.prog 135 [iD x] (bD (decide (1099511627776 < x))) := by
  refine Runs.wp Am.hT Am.hm Tryz.func135 rfl (by decide) ⟨[], [0, 2], 5⟩ ?_; ((conv => whnf); repeat (refine Gq ?_; (conv => whnf)))
  refine litE rfl ?_
  ((conv => whnf); repeat (refine Gq ?_; (conv => whnf)))
  exact TeA
theorem pr_take {l : List Int} {i : Nat} (h : i < l.length) : pr (l.drop i) = l[i] * pr (l.drop (i + 1)) := by rw [List.drop_eq_getElem_cons h, pr_cons]
theorem size_runs (l : List Int) (hl : l.length ≤ 9223372036854775807) : Runs Tryz.prog 71 [rI l none] (.tup [iD (sizeS l).1, iD (sizeS l).2]) := by
  have c1 := contFI_runs (l := l) (p := fun x => decide (x < 0)) (F := 134) hl (fun x _ => size1_runs x)
  have c2 := contFI_runs (l := l) (p := fun x => decide (1099511627776 < x)) (F := 135) hl (fun x _ => size2_runs x)
  have c3 := contI_runs (l := l) (z := 0) hl
  have e3 : l.any (fun x => (0 : Int) == x) = l.any (fun x => x == 0) := by
    congr 1; funext x; rw [Bool.eq_iff_iff, beq_iff_eq, beq_iff_eq]; exact eq_comm
  rw [e3] at c3
  unfold sizeS
  by_cases h3 : 3 < l.length
  · rw [if_pos h3]
    refine Runs.wp Am.hT Am.hm Tryz.func71 rfl (by decide) ⟨[], [0, 2, 3, 4, 6, 7, 11, 14, 17, 20, 21, 22, 23, 29], 35⟩ ?_; ((conv => whnf); repeat (refine Gq ?_; (conv => whnf)))
    refine Lt (by simp; omega) ?_
    ((conv => whnf); repeat (refine Gq ?_; (conv => whnf)))
    exact TeA
  rw [if_neg h3]
  have g3 : decide (((l.length : Nat) : Int) > 3) = false := by simp; omega
  by_cases h5 : l.any (fun x => decide (x < 0)) = true
  · rw [if_pos h5]
    rw [h5] at c1
    refine Runs.wp Am.hT Am.hm Tryz.func71 rfl (by decide) ⟨[], [0, 2, 3, 4, 6, 7, 11, 14, 17, 20, 21, 22, 23, 29], 35⟩ ?_; ((conv => whnf); repeat (refine Gq ?_; (conv => whnf)))
    refine Lf g3 ?_
    ((conv => whnf); repeat (refine Gq ?_; (conv => whnf)))
    ((conv => whnf); (refine HfA c1 ?_); ((conv => whnf); repeat (refine Gq ?_; (conv => whnf))))
    exact TeA
  rw [if_neg h5]
  have n5 := any_false h5
  rw [Bool.eq_false_iff.mpr h5] at c1
  by_cases h8 : l.any (fun x => decide (1099511627776 < x)) = true
  · rw [if_pos h8]
    rw [h8] at c2
    refine Runs.wp Am.hT Am.hm Tryz.func71 rfl (by decide) ⟨[], [0, 2, 3, 4, 6, 7, 11, 14, 17, 20, 21, 22, 23, 29], 35⟩ ?_; ((conv => whnf); repeat (refine Gq ?_; (conv => whnf)))
    refine Lf g3 ?_
    ((conv => whnf); repeat (refine Gq ?_; (conv => whnf)))
    ((conv => whnf); (refine HfA c1 ?_); ((conv => whnf); repeat (refine Gq ?_; (conv => whnf))))
    ((conv => whnf); (refine HfA c2 ?_); ((conv => whnf); repeat (refine Gq ?_; (conv => whnf))))
    exact TeA
  rw [if_neg h8]
  have n8 := any_false h8
  rw [Bool.eq_false_iff.mpr h8] at c2
  by_cases h0 : l.any (fun x => x == 0) = true
  · rw [if_pos h0]
    rw [h0] at c3
    refine Runs.wp Am.hT Am.hm Tryz.func71 rfl (by decide) ⟨[], [0, 2, 3, 4, 6, 7, 11, 14, 17, 20, 21, 22, 23, 29], 35⟩ ?_; ((conv => whnf); repeat (refine Gq ?_; (conv => whnf)))
    refine Lf g3 ?_
    ((conv => whnf); repeat (refine Gq ?_; (conv => whnf)))
    ((conv => whnf); (refine HfA c1 ?_); ((conv => whnf); repeat (refine Gq ?_; (conv => whnf))))
    ((conv => whnf); (refine HfA c2 ?_); ((conv => whnf); repeat (refine Gq ?_; (conv => whnf))))
    ((conv => whnf); (refine HfA c3 ?_); ((conv => whnf); repeat (refine Gq ?_; (conv => whnf))))
    exact TeA
  rw [if_neg h0]
  have n0 := any_false h0
  rw [Bool.eq_false_iff.mpr h0] at c3
  have hb : ∀ x ∈ l, 1 ≤ x ∧ x ≤ 1099511627776 := fun x hx => by
    have a := n5 x hx
    have b := n8 x hx
    have c := n0 x hx
    simp at a b c
    omega
  clear n5 n8 n0
  refine Runs.wp Am.hT Am.hm Tryz.func71 rfl (by decide) ⟨[], [0, 2, 3, 4, 6, 7, 11, 14, 17, 20, 21, 22, 23, 29], 35⟩ ?_; ((conv => whnf); repeat (refine Gq ?_; (conv => whnf)))
  refine Lf g3 ?_
  ((conv => whnf); repeat (refine Gq ?_; (conv => whnf)))
  ((conv => whnf); (refine HfA c1 ?_); ((conv => whnf); repeat (refine Gq ?_; (conv => whnf))))
  ((conv => whnf); (refine HfA c2 ?_); ((conv => whnf); repeat (refine Gq ?_; (conv => whnf))))
  ((conv => whnf); (refine HfA c3 ?_); ((conv => whnf); repeat (refine Gq ?_; (conv => whnf))))
  refine loop_ind (fun k (x : Nat × Int) => x.1 + k = l.length + 1 ∧ x.1 ≤ l.length ∧ 1 ≤ x.2 ∧ x.2 ≤ 4096 ∧ pr l = x.2 * pr (l.drop x.1)) (fun x => { t := pin [(0, .d (rI l none)), (4, .d (iD x.2)), (20, .d (rI l none)), (21, .d (iD l.length)), (22, .d (iD x.1))], N := 35, h := hpin [], n := 0, lo := 0 }) (fun i h => by omega) ?_ (l.length + 1) (0, 1) ⟨by simp, by simp, by simp, by simp, by simp⟩ _ ?_
  · rintro k ⟨i, z⟩ R ih ⟨hk, hi, hz1, hz2, he⟩
    dsimp only at *
    by_cases hlt : i < l.length
    · have hxm := hb l[i] (List.getElem_mem hlt)
      have hd := pr_take hlt
      have hp1 : 1 ≤ pr (l.drop (i + 1)) := pr_pos fun y hy => (hb y (List.mem_of_mem_drop hy)).1
      rw [hd] at he
      generalize hxe : l[i] = x at *
      have eq1 : Int.tdiv 4096 z = 4096 / z := Int.tdiv_eq_ediv_of_nonneg (by decide)
      have eq3 : 0 ≤ 4096 / z ∧ 4096 / z ≤ 4096 := ⟨Int.ediv_nonneg (by decide) (by omega), Int.ediv_le_self _ (by decide)⟩
      have eq2 : IntKind.i64.wrap (Int.tdiv 4096 z) = 4096 / z := by rw [eq1]; exact i64w (by omega) (by omega)
      have hix : (l.map iD)[(i : Int).toNat * 1]? = some (iD x) := ixm (j := i) (by simp [hlt, hxe]) (by simp)
      by_cases hbig : 4096 / z < x
      · have hf : fin (pr l) = (0, 8) := by
          refine fin_gt ?_
          have : 4096 < x * z := (Int.ediv_lt_iff_lt_mul (by omega)).1 hbig
          have h2 : x * z ≤ pr l := by
            rw [he, ← Int.mul_assoc, Int.mul_comm z x]
            have := Int.mul_le_mul_of_nonneg_left hp1 (show 0 ≤ x * z by omega)
            rwa [Int.mul_one] at this
          omega
        rw [hf]
        ((conv => whnf); repeat (refine Gq ?_; (conv => whnf)))
        refine Lt (by simpa using hlt) ?_
        ((conv => whnf); repeat ((first | refine Wo ?_ | refine Lt (by decide) ?_ | refine Lf (by decide) ?_ | refine Cl (by decide) ?_ | refine Cr (by decide) ?_ | refine ⟨_, rfl, ?_⟩ | refine Mi rfl ?_ | (refine And.intro ArA ?_)); (conv => whnf)))
        ((conv => whnf); refine ⟨_, hix, ?_⟩; ((conv => whnf); repeat (refine Gq ?_; (conv => whnf))))
        refine ⟨rfl, by omega, ?_⟩
        ((conv => whnf); repeat (refine Gq ?_; (conv => whnf)))
        refine Lt (by rw [eq2]; simpa using hbig) ?_
        ((conv => whnf); repeat (refine Gq ?_; (conv => whnf)))
        exact TeA
      · have hm : x * z ≤ 4096 := by
          have : ¬ 4096 < x * z := fun h => hbig ((Int.ediv_lt_iff_lt_mul (by omega)).2 h)
          omega
        have hm1 : 1 ≤ z * x := by
          have := Int.mul_le_mul hz1 hxm.1 (by omega) (by omega)
          simpa using this
        rw [Int.mul_comm] at hm
        ((conv => whnf); repeat (refine Gq ?_; (conv => whnf)))
        refine Lt (by simpa using hlt) ?_
        ((conv => whnf); repeat ((first | refine Wo ?_ | refine Lt (by decide) ?_ | refine Lf (by decide) ?_ | refine Cl (by decide) ?_ | refine Cr (by decide) ?_ | refine ⟨_, rfl, ?_⟩ | refine Mi rfl ?_ | (refine And.intro ArA ?_)); (conv => whnf)))
        ((conv => whnf); refine ⟨_, hix, ?_⟩; ((conv => whnf); repeat (refine Gq ?_; (conv => whnf))))
        refine ⟨rfl, by omega, ?_⟩
        ((conv => whnf); repeat (refine Gq ?_; (conv => whnf)))
        refine Lf (by rw [eq2]; simpa using hbig) ?_
        ((conv => whnf); repeat (refine Gq ?_; (conv => whnf)))
        refine ih (i + 1, z * x) _ ⟨by dsimp only; omega, by dsimp only; omega, hm1, hm, by dsimp only; rw [he, Int.mul_assoc]⟩ ?_
        (refine Wk.to _ _ ?_ ?_ <;> (repeat' first | exact trivial | rfl | (refine And.intro ?_ ?_)))
        · exact inE (i64w (by omega) (by omega))
        · exact inE (i64n (by simp) (by omega))
    · have hf : pr l = z := by rw [he, List.drop_eq_nil_of_le (by omega), pr_nil]; omega
      rw [hf, fin_le hz2]
      ((conv => whnf); repeat (refine Gq ?_; (conv => whnf)))
      refine Lf (by simpa using hlt) ?_
      ((conv => whnf); repeat (refine Gq ?_; (conv => whnf)))
      exact TeA
  · (refine Wk.to _ _ ?_ ?_ <;> (repeat' first | exact trivial | rfl | (refine And.intro ?_ ?_)))
end Go.Proofs.YtkhgpnbhnipndaaGreatDoor.Am
end
