/- What the law leans on, part 14: declarations of several texts of ours, in their order. -/
import Derived.Test.YtjldjhlccedkbaaGreatDoorXP11
import Derived.Test.YtjldjhlccedkbaaGreatDoorXP12
section
/- Rows, searched and compared. -/
namespace Go.Proofs.YtjldjhlccedkbaaGreatDoor.Am
open Go Go.RowKit Go.Proofs.YtjldjhlccedkbaaGreatDoor.Sh
set_option linter.unusedVariables false
set_option linter.unusedSimpArgs false
set_option maxRecDepth 100000
set_option maxHeartbeats 8000000
def idxI {α : Type} (p : α → Bool) : List α → Nat → Int
  | [], _ => -1
  | x :: l, i => if p x = true then i else idxI p l (i + 1)
theorem idxI_any {α : Type} (p : α → Bool) : ∀ (l : List α) (i : Nat), decide (idxI p l i ≥ 0) = l.any p
  | [], i => by simp [idxI]
  | x :: l, i => by
    unfold idxI
    by_cases h : p x = true
    · rw [if_pos h]; simp [h]
    · rw [if_neg h, idxI_any p l (i + 1)]; simp [h]
theorem take_snoc {α : Type} {l : List α} {i : Nat} (h : i < l.length) : l.take (i + 1) = l.take i ++ [l[i]] := by rw [List.take_add_one, List.getElem?_eq_getElem h]; rfl
theorem take_eq_snoc {α : Type} {a b : List α} {i : Nat} (ha : i < a.length) (hb : i < b.length) (h : a.take i = b.take i) (he : a[i] = b[i]) : a.take (i + 1) = b.take (i + 1) := by rw [take_snoc ha, take_snoc hb, h, he]
theorem indexFI_runs {l : List Int} {p : Int → Bool} {F : Nat} (hl : l.length ≤ 9223372036854775807) (hF : ∀ x ∈ l, Runs Tryz.prog F [iD x] (bD (p x))) : Runs Tryz.prog 140 [rI l none, .fn F []] (iD (idxI p l 0)) := by
  refine Runs.wp Go.Proofs.YtjldjhlccedkbaaGreatDoor.Am.hT Go.Proofs.YtjldjhlccedkbaaGreatDoor.Am.hm Tryz.func140 rfl (by decide) ⟨[], [0, 1, 4, 5, 7, 8, 9, 16], 19⟩ ?_; ((conv => whnf); repeat ((first | refine Wo ?_ | refine Lt (by decide) ?_ | refine Lf (by decide) ?_ | refine Cl (by decide) ?_ | refine Cr (by decide) ?_ | refine ⟨_, rfl, ?_⟩ | refine Mi rfl ?_); (conv => whnf)))
  refine loop_ind (fun k (i : Nat) => i + k = l.length + 1 ∧ i ≤ l.length ∧ idxI p l 0 = idxI p (l.drop i) i) (fun i => { t := pin [(0, .d (rI l none)), (1, .d (.fn F [])), (7, .d (iD l.length)), (8, .d (iD i))], N := 19, h := hpin [], n := 0, lo := 0 }) (fun i h => by omega) ?_ (l.length + 1) 0 ⟨by omega, by omega, rfl⟩ _ ?_
  · rintro k i R ih ⟨hk, hi, he⟩
    by_cases hlt : i < l.length
    · have hd : l.drop i = l[i] :: l.drop (i + 1) := List.drop_eq_getElem_cons hlt
      have hx := hF l[i] (List.getElem_mem hlt)
      rw [hd, idxI] at he
      rcases Bool.eq_false_or_eq_true (p l[i]) with hp | hp
      · rw [if_pos hp] at he
        rw [he]
        rw [hp] at hx
        ((conv => whnf); repeat ((first | refine Wo ?_ | refine Lt (by decide) ?_ | refine Lf (by decide) ?_ | refine Cl (by decide) ?_ | refine Cr (by decide) ?_ | refine ⟨_, rfl, ?_⟩ | refine Mi rfl ?_); (conv => whnf)))
        refine Lt (by simpa using hlt) ?_
        ((conv => whnf); repeat ((first | refine Wo ?_ | refine Lt (by decide) ?_ | refine Lf (by decide) ?_ | refine Cl (by decide) ?_ | refine Cr (by decide) ?_ | refine ⟨_, rfl, ?_⟩ | refine Mi rfl ?_ | (refine And.intro ?_ ?_; focus (first | decide | rfl | assumption | omega | (dsimp only; omega) | (unfold maxLen; omega) | ((try dsimp only [maxLen]); simp only [List.length_append, List.length_cons, List.length_nil, List.length_map, List.length_range, List.length_set, List.length_replicate]; omega) | ((try dsimp only [maxLen]); simp only [IntKind.wrap_i64, IntKind.wrap_u64, List.length_append, List.length_cons, List.length_nil, List.length_map, List.length_range, List.length_set, List.length_replicate]; omega) | ((try dsimp only [maxLen]); simp only [List.length_append, List.length_cons, List.length_nil, List.length_map, List.length_range, List.length_set, List.length_replicate] at *; omega)))); (conv => whnf)))
        ((conv => whnf); refine ⟨_, ixm (j := i) (x := l[i]) (by simp [hlt]) (by simp), ?_⟩; ((conv => whnf); repeat ((first | refine Wo ?_ | refine Lt (by decide) ?_ | refine Lf (by decide) ?_ | refine Cl (by decide) ?_ | refine Cr (by decide) ?_ | refine ⟨_, rfl, ?_⟩ | refine Mi rfl ?_); (conv => whnf))))
        ((conv => whnf); (refine Hc.flat hx ?_ rfl ?_; (focus ((repeat ((conv => arg 1; whnf); first | exact Tels.nil | apply Tels.cons | apply Tel.aggs | apply Tel.tups | exact Tel.refl _ | exact Tel.nil1 _ | exact Tel.cap _ _ _ _)); done))); ((conv => whnf); repeat ((first | refine Wo ?_ | refine Lt (by decide) ?_ | refine Lf (by decide) ?_ | refine Cl (by decide) ?_ | refine Cr (by decide) ?_ | refine ⟨_, rfl, ?_⟩ | refine Mi rfl ?_); (conv => whnf))))
        ((conv => whnf); ((repeat ((conv => arg 1; whnf); first | exact Tels.nil | apply Tels.cons | apply Tel.aggs | apply Tel.tups | exact Tel.refl _ | exact Tel.nil1 _ | exact Tel.cap _ _ _ _)); done))
      · rw [hp, if_neg (by decide)] at he
        rw [hp] at hx
        ((conv => whnf); repeat ((first | refine Wo ?_ | refine Lt (by decide) ?_ | refine Lf (by decide) ?_ | refine Cl (by decide) ?_ | refine Cr (by decide) ?_ | refine ⟨_, rfl, ?_⟩ | refine Mi rfl ?_); (conv => whnf)))
        refine Lt (by simpa using hlt) ?_
        ((conv => whnf); repeat ((first | refine Wo ?_ | refine Lt (by decide) ?_ | refine Lf (by decide) ?_ | refine Cl (by decide) ?_ | refine Cr (by decide) ?_ | refine ⟨_, rfl, ?_⟩ | refine Mi rfl ?_ | (refine And.intro ?_ ?_; focus (first | decide | rfl | assumption | omega | (dsimp only; omega) | (unfold maxLen; omega) | ((try dsimp only [maxLen]); simp only [List.length_append, List.length_cons, List.length_nil, List.length_map, List.length_range, List.length_set, List.length_replicate]; omega) | ((try dsimp only [maxLen]); simp only [IntKind.wrap_i64, IntKind.wrap_u64, List.length_append, List.length_cons, List.length_nil, List.length_map, List.length_range, List.length_set, List.length_replicate]; omega) | ((try dsimp only [maxLen]); simp only [List.length_append, List.length_cons, List.length_nil, List.length_map, List.length_range, List.length_set, List.length_replicate] at *; omega)))); (conv => whnf)))
        ((conv => whnf); refine ⟨_, ixm (j := i) (x := l[i]) (by simp [hlt]) (by simp), ?_⟩; ((conv => whnf); repeat ((first | refine Wo ?_ | refine Lt (by decide) ?_ | refine Lf (by decide) ?_ | refine Cl (by decide) ?_ | refine Cr (by decide) ?_ | refine ⟨_, rfl, ?_⟩ | refine Mi rfl ?_); (conv => whnf))))
        ((conv => whnf); (refine Hc.flat hx ?_ rfl ?_; (focus ((repeat ((conv => arg 1; whnf); first | exact Tels.nil | apply Tels.cons | apply Tel.aggs | apply Tel.tups | exact Tel.refl _ | exact Tel.nil1 _ | exact Tel.cap _ _ _ _)); done))); ((conv => whnf); repeat ((first | refine Wo ?_ | refine Lt (by decide) ?_ | refine Lf (by decide) ?_ | refine Cl (by decide) ?_ | refine Cr (by decide) ?_ | refine ⟨_, rfl, ?_⟩ | refine Mi rfl ?_); (conv => whnf))))
        refine ih (i + 1) _ ⟨by omega, by omega, he⟩ ?_
        (refine Wk.to _ _ ?_ ?_ <;> (repeat' first | exact trivial | rfl | (refine And.intro ?_ ?_)))
        exact inE (i64n (by simp) (by omega))
    · rw [List.drop_eq_nil_of_le (by omega), idxI] at he
      rw [he]
      ((conv => whnf); repeat ((first | refine Wo ?_ | refine Lt (by decide) ?_ | refine Lf (by decide) ?_ | refine Cl (by decide) ?_ | refine Cr (by decide) ?_ | refine ⟨_, rfl, ?_⟩ | refine Mi rfl ?_); (conv => whnf)))
      refine Lf (by simpa using hlt) ?_
      ((conv => whnf); repeat ((first | refine Wo ?_ | refine Lt (by decide) ?_ | refine Lf (by decide) ?_ | refine Cl (by decide) ?_ | refine Cr (by decide) ?_ | refine ⟨_, rfl, ?_⟩ | refine Mi rfl ?_); (conv => whnf)))
      ((conv => whnf); ((repeat ((conv => arg 1; whnf); first | exact Tels.nil | apply Tels.cons | apply Tel.aggs | apply Tel.tups | exact Tel.refl _ | exact Tel.nil1 _ | exact Tel.cap _ _ _ _)); done))
  · (refine Wk.to _ _ ?_ ?_ <;> (repeat' first | exact trivial | rfl | (refine And.intro ?_ ?_)))
theorem contFI_runs {l : List Int} {p : Int → Bool} {F : Nat} (hl : l.length ≤ 9223372036854775807) (hF : ∀ x ∈ l, Runs Tryz.prog F [iD x] (bD (p x))) : Runs Tryz.prog 95 [rI l none, .fn F []] (bD (l.any p)) := by
  have h1 := indexFI_runs hl hF
  have h2 := idxI_any p l 0
  refine Runs.wp Go.Proofs.YtjldjhlccedkbaaGreatDoor.Am.hT Go.Proofs.YtjldjhlccedkbaaGreatDoor.Am.hm Tryz.func95 rfl (by decide) ⟨[], [0, 1, 4], 9⟩ ?_; ((conv => whnf); repeat ((first | refine Wo ?_ | refine Lt (by decide) ?_ | refine Lf (by decide) ?_ | refine Cl (by decide) ?_ | refine Cr (by decide) ?_ | refine ⟨_, rfl, ?_⟩ | refine Mi rfl ?_); (conv => whnf)))
  ((conv => whnf); (refine Hc.flat h1 ?_ rfl ?_; (focus ((repeat ((conv => arg 1; whnf); first | exact Tels.nil | apply Tels.cons | apply Tel.aggs | apply Tel.tups | exact Tel.refl _ | exact Tel.nil1 _ | exact Tel.cap _ _ _ _)); done))); ((conv => whnf); repeat ((first | refine Wo ?_ | refine Lt (by decide) ?_ | refine Lf (by decide) ?_ | refine Cl (by decide) ?_ | refine Cr (by decide) ?_ | refine ⟨_, rfl, ?_⟩ | refine Mi rfl ?_); (conv => whnf))))
  refine litE h2 ?_
  ((conv => whnf); repeat ((first | refine Wo ?_ | refine Lt (by decide) ?_ | refine Lf (by decide) ?_ | refine Cl (by decide) ?_ | refine Cr (by decide) ?_ | refine ⟨_, rfl, ?_⟩ | refine Mi rfl ?_); (conv => whnf)))
  ((conv => whnf); ((repeat ((conv => arg 1; whnf); first | exact Tels.nil | apply Tels.cons | apply Tel.aggs | apply Tel.tups | exact Tel.refl _ | exact Tel.nil1 _ | exact Tel.cap _ _ _ _)); done))
theorem indexFS_runs {l : List ByteArray} {p : ByteArray → Bool} {F : Nat} (hl : l.length ≤ 9223372036854775807) (hF : ∀ x ∈ l, Runs Tryz.prog F [sD x] (bD (p x))) : Runs Tryz.prog 99 [rS l none, .fn F []] (iD (idxI p l 0)) := by
  refine Runs.wp Go.Proofs.YtjldjhlccedkbaaGreatDoor.Am.hT Go.Proofs.YtjldjhlccedkbaaGreatDoor.Am.hm Tryz.func99 rfl (by decide) ⟨[], [0, 1, 4, 5, 7, 8, 9, 16], 19⟩ ?_; ((conv => whnf); repeat ((first | refine Wo ?_ | refine Lt (by decide) ?_ | refine Lf (by decide) ?_ | refine Cl (by decide) ?_ | refine Cr (by decide) ?_ | refine ⟨_, rfl, ?_⟩ | refine Mi rfl ?_); (conv => whnf)))
  refine loop_ind (fun k (i : Nat) => i + k = l.length + 1 ∧ i ≤ l.length ∧ idxI p l 0 = idxI p (l.drop i) i) (fun i => { t := pin [(0, .d (rS l none)), (1, .d (.fn F [])), (7, .d (iD l.length)), (8, .d (iD i))], N := 19, h := hpin [], n := 0, lo := 0 }) (fun i h => by omega) ?_ (l.length + 1) 0 ⟨by omega, by omega, rfl⟩ _ ?_
  · rintro k i R ih ⟨hk, hi, he⟩
    by_cases hlt : i < l.length
    · have hd : l.drop i = l[i] :: l.drop (i + 1) := List.drop_eq_getElem_cons hlt
      have hx := hF l[i] (List.getElem_mem hlt)
      rw [hd, idxI] at he
      rcases Bool.eq_false_or_eq_true (p l[i]) with hp | hp
      · rw [if_pos hp] at he
        rw [he]
        rw [hp] at hx
        ((conv => whnf); repeat ((first | refine Wo ?_ | refine Lt (by decide) ?_ | refine Lf (by decide) ?_ | refine Cl (by decide) ?_ | refine Cr (by decide) ?_ | refine ⟨_, rfl, ?_⟩ | refine Mi rfl ?_); (conv => whnf)))
        refine Lt (by simpa using hlt) ?_
        ((conv => whnf); repeat ((first | refine Wo ?_ | refine Lt (by decide) ?_ | refine Lf (by decide) ?_ | refine Cl (by decide) ?_ | refine Cr (by decide) ?_ | refine ⟨_, rfl, ?_⟩ | refine Mi rfl ?_ | (refine And.intro ?_ ?_; focus (first | decide | rfl | assumption | omega | (dsimp only; omega) | (unfold maxLen; omega) | ((try dsimp only [maxLen]); simp only [List.length_append, List.length_cons, List.length_nil, List.length_map, List.length_range, List.length_set, List.length_replicate]; omega) | ((try dsimp only [maxLen]); simp only [IntKind.wrap_i64, IntKind.wrap_u64, List.length_append, List.length_cons, List.length_nil, List.length_map, List.length_range, List.length_set, List.length_replicate]; omega) | ((try dsimp only [maxLen]); simp only [List.length_append, List.length_cons, List.length_nil, List.length_map, List.length_range, List.length_set, List.length_replicate] at *; omega)))); (conv => whnf)))
        ((conv => whnf); refine ⟨_, ixm (j := i) (x := l[i]) (by simp [hlt]) (by simp), ?_⟩; ((conv => whnf); repeat ((first | refine Wo ?_ | refine Lt (by decide) ?_ | refine Lf (by decide) ?_ | refine Cl (by decide) ?_ | refine Cr (by decide) ?_ | refine ⟨_, rfl, ?_⟩ | refine Mi rfl ?_); (conv => whnf))))
        ((conv => whnf); (refine Hc.flat hx ?_ rfl ?_; (focus ((repeat ((conv => arg 1; whnf); first | exact Tels.nil | apply Tels.cons | apply Tel.aggs | apply Tel.tups | exact Tel.refl _ | exact Tel.nil1 _ | exact Tel.cap _ _ _ _)); done))); ((conv => whnf); repeat ((first | refine Wo ?_ | refine Lt (by decide) ?_ | refine Lf (by decide) ?_ | refine Cl (by decide) ?_ | refine Cr (by decide) ?_ | refine ⟨_, rfl, ?_⟩ | refine Mi rfl ?_); (conv => whnf))))
        ((conv => whnf); ((repeat ((conv => arg 1; whnf); first | exact Tels.nil | apply Tels.cons | apply Tel.aggs | apply Tel.tups | exact Tel.refl _ | exact Tel.nil1 _ | exact Tel.cap _ _ _ _)); done))
      · rw [hp, if_neg (by decide)] at he
        rw [hp] at hx
        ((conv => whnf); repeat ((first | refine Wo ?_ | refine Lt (by decide) ?_ | refine Lf (by decide) ?_ | refine Cl (by decide) ?_ | refine Cr (by decide) ?_ | refine ⟨_, rfl, ?_⟩ | refine Mi rfl ?_); (conv => whnf)))
        refine Lt (by simpa using hlt) ?_
        ((conv => whnf); repeat ((first | refine Wo ?_ | refine Lt (by decide) ?_ | refine Lf (by decide) ?_ | refine Cl (by decide) ?_ | refine Cr (by decide) ?_ | refine ⟨_, rfl, ?_⟩ | refine Mi rfl ?_ | (refine And.intro ?_ ?_; focus (first | decide | rfl | assumption | omega | (dsimp only; omega) | (unfold maxLen; omega) | ((try dsimp only [maxLen]); simp only [List.length_append, List.length_cons, List.length_nil, List.length_map, List.length_range, List.length_set, List.length_replicate]; omega) | ((try dsimp only [maxLen]); simp only [IntKind.wrap_i64, IntKind.wrap_u64, List.length_append, List.length_cons, List.length_nil, List.length_map, List.length_range, List.length_set, List.length_replicate]; omega) | ((try dsimp only [maxLen]); simp only [List.length_append, List.length_cons, List.length_nil, List.length_map, List.length_range, List.length_set, List.length_replicate] at *; omega)))); (conv => whnf)))
        ((conv => whnf); refine ⟨_, ixm (j := i) (x := l[i]) (by simp [hlt]) (by simp), ?_⟩; ((conv => whnf); repeat ((first | refine Wo ?_ | refine Lt (by decide) ?_ | refine Lf (by decide) ?_ | refine Cl (by decide) ?_ | refine Cr (by decide) ?_ | refine ⟨_, rfl, ?_⟩ | refine Mi rfl ?_); (conv => whnf))))
        ((conv => whnf); (refine Hc.flat hx ?_ rfl ?_; (focus ((repeat ((conv => arg 1; whnf); first | exact Tels.nil | apply Tels.cons | apply Tel.aggs | apply Tel.tups | exact Tel.refl _ | exact Tel.nil1 _ | exact Tel.cap _ _ _ _)); done))); ((conv => whnf); repeat ((first | refine Wo ?_ | refine Lt (by decide) ?_ | refine Lf (by decide) ?_ | refine Cl (by decide) ?_ | refine Cr (by decide) ?_ | refine ⟨_, rfl, ?_⟩ | refine Mi rfl ?_); (conv => whnf))))
        refine ih (i + 1) _ ⟨by omega, by omega, he⟩ ?_
        (refine Wk.to _ _ ?_ ?_ <;> (repeat' first | exact trivial | rfl | (refine And.intro ?_ ?_)))
        exact inE (i64n (by simp) (by omega))
    · rw [List.drop_eq_nil_of_le (by omega), idxI] at he
      rw [he]
      ((conv => whnf); repeat ((first | refine Wo ?_ | refine Lt (by decide) ?_ | refine Lf (by decide) ?_ | refine Cl (by decide) ?_ | refine Cr (by decide) ?_ | refine ⟨_, rfl, ?_⟩ | refine Mi rfl ?_); (conv => whnf)))
      refine Lf (by simpa using hlt) ?_
      ((conv => whnf); repeat ((first | refine Wo ?_ | refine Lt (by decide) ?_ | refine Lf (by decide) ?_ | refine Cl (by decide) ?_ | refine Cr (by decide) ?_ | refine ⟨_, rfl, ?_⟩ | refine Mi rfl ?_); (conv => whnf)))
      ((conv => whnf); ((repeat ((conv => arg 1; whnf); first | exact Tels.nil | apply Tels.cons | apply Tel.aggs | apply Tel.tups | exact Tel.refl _ | exact Tel.nil1 _ | exact Tel.cap _ _ _ _)); done))
  · (refine Wk.to _ _ ?_ ?_ <;> (repeat' first | exact trivial | rfl | (refine And.intro ?_ ?_)))
theorem contFS_runs {l : List ByteArray} {p : ByteArray → Bool} {F : Nat} (hl : l.length ≤ 9223372036854775807) (hF : ∀ x ∈ l, Runs Tryz.prog F [sD x] (bD (p x))) : Runs Tryz.prog 46 [rS l none, .fn F []] (bD (l.any p)) := by
  have h1 := indexFS_runs hl hF
  have h2 := idxI_any p l 0
  refine Runs.wp Go.Proofs.YtjldjhlccedkbaaGreatDoor.Am.hT Go.Proofs.YtjldjhlccedkbaaGreatDoor.Am.hm Tryz.func46 rfl (by decide) ⟨[], [0, 1, 4], 9⟩ ?_; ((conv => whnf); repeat ((first | refine Wo ?_ | refine Lt (by decide) ?_ | refine Lf (by decide) ?_ | refine Cl (by decide) ?_ | refine Cr (by decide) ?_ | refine ⟨_, rfl, ?_⟩ | refine Mi rfl ?_); (conv => whnf)))
  ((conv => whnf); (refine Hc.flat h1 ?_ rfl ?_; (focus ((repeat ((conv => arg 1; whnf); first | exact Tels.nil | apply Tels.cons | apply Tel.aggs | apply Tel.tups | exact Tel.refl _ | exact Tel.nil1 _ | exact Tel.cap _ _ _ _)); done))); ((conv => whnf); repeat ((first | refine Wo ?_ | refine Lt (by decide) ?_ | refine Lf (by decide) ?_ | refine Cl (by decide) ?_ | refine Cr (by decide) ?_ | refine ⟨_, rfl, ?_⟩ | refine Mi rfl ?_); (conv => whnf))))
  refine litE h2 ?_
  ((conv => whnf); repeat ((first | refine Wo ?_ | refine Lt (by decide) ?_ | refine Lf (by decide) ?_ | refine Cl (by decide) ?_ | refine Cr (by decide) ?_ | refine ⟨_, rfl, ?_⟩ | refine Mi rfl ?_); (conv => whnf)))
  ((conv => whnf); ((repeat ((conv => arg 1; whnf); first | exact Tels.nil | apply Tels.cons | apply Tel.aggs | apply Tel.tups | exact Tel.refl _ | exact Tel.nil1 _ | exact Tel.cap _ _ _ _)); done))
theorem indexI_runs {l : List Int} {z : Int} (hl : l.length ≤ 9223372036854775807) : Runs Tryz.prog 141 [rI l none, iD z] (iD (idxI (fun x => z == x) l 0)) := by
  refine Runs.wp Go.Proofs.YtjldjhlccedkbaaGreatDoor.Am.hT Go.Proofs.YtjldjhlccedkbaaGreatDoor.Am.hm Tryz.func141 rfl (by decide) ⟨[], [0, 1, 4, 5, 7, 8, 9, 16], 19⟩ ?_; ((conv => whnf); repeat ((first | refine Wo ?_ | refine Lt (by decide) ?_ | refine Lf (by decide) ?_ | refine Cl (by decide) ?_ | refine Cr (by decide) ?_ | refine ⟨_, rfl, ?_⟩ | refine Mi rfl ?_); (conv => whnf)))
  refine loop_ind (fun k (i : Nat) => i + k = l.length + 1 ∧ i ≤ l.length ∧ idxI (fun x => z == x) l 0 = idxI (fun x => z == x) (l.drop i) i) (fun i => { t := pin [(0, .d (rI l none)), (1, .d (iD z)), (7, .d (iD l.length)), (8, .d (iD i))], N := 19, h := hpin [], n := 0, lo := 0 }) (fun i h => by omega) ?_ (l.length + 1) 0 ⟨by omega, by omega, rfl⟩ _ ?_
  · rintro k i R ih ⟨hk, hi, he⟩
    by_cases hlt : i < l.length
    · have hd : l.drop i = l[i] :: l.drop (i + 1) := List.drop_eq_getElem_cons hlt
      rw [hd, idxI] at he
      have hix : (l.map iD)[(i : Int).toNat * 1]? = some (iD l[i]) := ixm (j := i) (by simp [hlt]) (by simp)
      rcases Bool.eq_false_or_eq_true (z == l[i]) with hp | hp
      · rw [if_pos hp] at he
        rw [he]
        ((conv => whnf); repeat ((first | refine Wo ?_ | refine Lt (by decide) ?_ | refine Lf (by decide) ?_ | refine Cl (by decide) ?_ | refine Cr (by decide) ?_ | refine ⟨_, rfl, ?_⟩ | refine Mi rfl ?_); (conv => whnf)))
        refine Lt (by simpa using hlt) ?_
        ((conv => whnf); repeat ((first | refine Wo ?_ | refine Lt (by decide) ?_ | refine Lf (by decide) ?_ | refine Cl (by decide) ?_ | refine Cr (by decide) ?_ | refine ⟨_, rfl, ?_⟩ | refine Mi rfl ?_ | (refine And.intro ?_ ?_; focus (first | decide | rfl | assumption | omega | (dsimp only; omega) | (unfold maxLen; omega) | ((try dsimp only [maxLen]); simp only [List.length_append, List.length_cons, List.length_nil, List.length_map, List.length_range, List.length_set, List.length_replicate]; omega) | ((try dsimp only [maxLen]); simp only [IntKind.wrap_i64, IntKind.wrap_u64, List.length_append, List.length_cons, List.length_nil, List.length_map, List.length_range, List.length_set, List.length_replicate]; omega) | ((try dsimp only [maxLen]); simp only [List.length_append, List.length_cons, List.length_nil, List.length_map, List.length_range, List.length_set, List.length_replicate] at *; omega)))); (conv => whnf)))
        ((conv => whnf); refine ⟨_, hix, ?_⟩; ((conv => whnf); repeat ((first | refine Wo ?_ | refine Lt (by decide) ?_ | refine Lf (by decide) ?_ | refine Cl (by decide) ?_ | refine Cr (by decide) ?_ | refine ⟨_, rfl, ?_⟩ | refine Mi rfl ?_); (conv => whnf))))
        refine litE hp ?_
        ((conv => whnf); repeat ((first | refine Wo ?_ | refine Lt (by decide) ?_ | refine Lf (by decide) ?_ | refine Cl (by decide) ?_ | refine Cr (by decide) ?_ | refine ⟨_, rfl, ?_⟩ | refine Mi rfl ?_); (conv => whnf)))
        ((conv => whnf); ((repeat ((conv => arg 1; whnf); first | exact Tels.nil | apply Tels.cons | apply Tel.aggs | apply Tel.tups | exact Tel.refl _ | exact Tel.nil1 _ | exact Tel.cap _ _ _ _)); done))
      · rw [hp, if_neg (by decide)] at he
        ((conv => whnf); repeat ((first | refine Wo ?_ | refine Lt (by decide) ?_ | refine Lf (by decide) ?_ | refine Cl (by decide) ?_ | refine Cr (by decide) ?_ | refine ⟨_, rfl, ?_⟩ | refine Mi rfl ?_); (conv => whnf)))
        refine Lt (by simpa using hlt) ?_
        ((conv => whnf); repeat ((first | refine Wo ?_ | refine Lt (by decide) ?_ | refine Lf (by decide) ?_ | refine Cl (by decide) ?_ | refine Cr (by decide) ?_ | refine ⟨_, rfl, ?_⟩ | refine Mi rfl ?_ | (refine And.intro ?_ ?_; focus (first | decide | rfl | assumption | omega | (dsimp only; omega) | (unfold maxLen; omega) | ((try dsimp only [maxLen]); simp only [List.length_append, List.length_cons, List.length_nil, List.length_map, List.length_range, List.length_set, List.length_replicate]; omega) | ((try dsimp only [maxLen]); simp only [IntKind.wrap_i64, IntKind.wrap_u64, List.length_append, List.length_cons, List.length_nil, List.length_map, List.length_range, List.length_set, List.length_replicate]; omega) | ((try dsimp only [maxLen]); simp only [List.length_append, List.length_cons, List.length_nil, List.length_map, List.length_range, List.length_set, List.length_replicate] at *; omega)))); (conv => whnf)))
        ((conv => whnf); refine ⟨_, hix, ?_⟩; ((conv => whnf); repeat ((first | refine Wo ?_ | refine Lt (by decide) ?_ | refine Lf (by decide) ?_ | refine Cl (by decide) ?_ | refine Cr (by decide) ?_ | refine ⟨_, rfl, ?_⟩ | refine Mi rfl ?_); (conv => whnf))))
        refine litE hp ?_
        ((conv => whnf); repeat ((first | refine Wo ?_ | refine Lt (by decide) ?_ | refine Lf (by decide) ?_ | refine Cl (by decide) ?_ | refine Cr (by decide) ?_ | refine ⟨_, rfl, ?_⟩ | refine Mi rfl ?_); (conv => whnf)))
        refine ih (i + 1) _ ⟨by omega, by omega, he⟩ ?_
        (refine Wk.to _ _ ?_ ?_ <;> (repeat' first | exact trivial | rfl | (refine And.intro ?_ ?_)))
        exact inE (i64n (by simp) (by omega))
    · rw [List.drop_eq_nil_of_le (by omega), idxI] at he
      rw [he]
      ((conv => whnf); repeat ((first | refine Wo ?_ | refine Lt (by decide) ?_ | refine Lf (by decide) ?_ | refine Cl (by decide) ?_ | refine Cr (by decide) ?_ | refine ⟨_, rfl, ?_⟩ | refine Mi rfl ?_); (conv => whnf)))
      refine Lf (by simpa using hlt) ?_
      ((conv => whnf); repeat ((first | refine Wo ?_ | refine Lt (by decide) ?_ | refine Lf (by decide) ?_ | refine Cl (by decide) ?_ | refine Cr (by decide) ?_ | refine ⟨_, rfl, ?_⟩ | refine Mi rfl ?_); (conv => whnf)))
      ((conv => whnf); ((repeat ((conv => arg 1; whnf); first | exact Tels.nil | apply Tels.cons | apply Tel.aggs | apply Tel.tups | exact Tel.refl _ | exact Tel.nil1 _ | exact Tel.cap _ _ _ _)); done))
  · (refine Wk.to _ _ ?_ ?_ <;> (repeat' first | exact trivial | rfl | (refine And.intro ?_ ?_)))
theorem contI_runs {l : List Int} {z : Int} (hl : l.length ≤ 9223372036854775807) : Runs Tryz.prog 98 [rI l none, iD z] (bD (l.any (fun x => z == x))) := by
  have h1 := indexI_runs (z := z) hl
  have h2 := idxI_any (fun x => z == x) l 0
  refine Runs.wp Go.Proofs.YtjldjhlccedkbaaGreatDoor.Am.hT Go.Proofs.YtjldjhlccedkbaaGreatDoor.Am.hm Tryz.func98 rfl (by decide) ⟨[], [0, 1, 4], 9⟩ ?_; ((conv => whnf); repeat ((first | refine Wo ?_ | refine Lt (by decide) ?_ | refine Lf (by decide) ?_ | refine Cl (by decide) ?_ | refine Cr (by decide) ?_ | refine ⟨_, rfl, ?_⟩ | refine Mi rfl ?_); (conv => whnf)))
  ((conv => whnf); (refine Hc.flat h1 ?_ rfl ?_; (focus ((repeat ((conv => arg 1; whnf); first | exact Tels.nil | apply Tels.cons | apply Tel.aggs | apply Tel.tups | exact Tel.refl _ | exact Tel.nil1 _ | exact Tel.cap _ _ _ _)); done))); ((conv => whnf); repeat ((first | refine Wo ?_ | refine Lt (by decide) ?_ | refine Lf (by decide) ?_ | refine Cl (by decide) ?_ | refine Cr (by decide) ?_ | refine ⟨_, rfl, ?_⟩ | refine Mi rfl ?_); (conv => whnf))))
  refine litE h2 ?_
  ((conv => whnf); repeat ((first | refine Wo ?_ | refine Lt (by decide) ?_ | refine Lf (by decide) ?_ | refine Cl (by decide) ?_ | refine Cr (by decide) ?_ | refine ⟨_, rfl, ?_⟩ | refine Mi rfl ?_); (conv => whnf)))
  ((conv => whnf); ((repeat ((conv => arg 1; whnf); first | exact Tels.nil | apply Tels.cons | apply Tel.aggs | apply Tel.tups | exact Tel.refl _ | exact Tel.nil1 _ | exact Tel.cap _ _ _ _)); done))
theorem bne_of {a b : ByteArray} (h : a ≠ b) : (a.toList == b.toList) = false := by
  rw [beq_eq_false_iff_ne]
  intro e
  rw [Go.Proofs.YtjldjhlccedkbaaGreatDoor.Nm.ba_of a, Go.Proofs.YtjldjhlccedkbaaGreatDoor.Nm.ba_of b, Go.Proofs.YtjldjhlccedkbaaGreatDoor.Nm.ba_list, Go.Proofs.YtjldjhlccedkbaaGreatDoor.Nm.ba_list] at e
  exact h (by rw [Go.Proofs.YtjldjhlccedkbaaGreatDoor.Nm.ba_of a, Go.Proofs.YtjldjhlccedkbaaGreatDoor.Nm.ba_of b, e])
end Go.Proofs.YtjldjhlccedkbaaGreatDoor.Am
end
section
/- Shapes: their sizes, two together, their items. -/
namespace Go.Proofs.YtjldjhlccedkbaaGreatDoor.Am
open Go Go.RowKit Go.Proofs.YtjldjhlccedkbaaGreatDoor.Sh
set_option linter.unusedVariables false
set_option linter.unusedSimpArgs false
set_option maxRecDepth 100000
set_option maxHeartbeats 8000000
theorem Tel.eq {x y : D} (h : x = y) : Tel x y := h ▸ .refl _
theorem dslE {z n n' : Nat} {l l' : List D} {c : Option Nat} (h1 : l = l') (h2 : n = n') : D.sl z l n c = D.sl z l' n' c := by subst h1 h2; rfl
theorem size1_runs (x : Int) : Runs Tryz.prog 96 [iD x] (bD (decide (x < 0))) := by
  refine Runs.wp Go.Proofs.YtjldjhlccedkbaaGreatDoor.Am.hT Go.Proofs.YtjldjhlccedkbaaGreatDoor.Am.hm Tryz.func96 rfl (by decide) ⟨[], [0, 2], 5⟩ ?_; ((conv => whnf); repeat ((first | refine Wo ?_ | refine Lt (by decide) ?_ | refine Lf (by decide) ?_ | refine Cl (by decide) ?_ | refine Cr (by decide) ?_ | refine ⟨_, rfl, ?_⟩ | refine Mi rfl ?_); (conv => whnf)))
  refine litE rfl ?_
  ((conv => whnf); repeat ((first | refine Wo ?_ | refine Lt (by decide) ?_ | refine Lf (by decide) ?_ | refine Cl (by decide) ?_ | refine Cr (by decide) ?_ | refine ⟨_, rfl, ?_⟩ | refine Mi rfl ?_); (conv => whnf)))
  ((conv => whnf); ((repeat ((conv => arg 1; whnf); first | exact Tels.nil | apply Tels.cons | apply Tel.aggs | apply Tel.tups | exact Tel.refl _ | exact Tel.nil1 _ | exact Tel.cap _ _ _ _)); done))
theorem size2_runs (x : Int) : Runs Tryz.prog 97 [iD x] (bD (decide (1099511627776 < x))) := by
  refine Runs.wp Go.Proofs.YtjldjhlccedkbaaGreatDoor.Am.hT Go.Proofs.YtjldjhlccedkbaaGreatDoor.Am.hm Tryz.func97 rfl (by decide) ⟨[], [0, 2], 5⟩ ?_; ((conv => whnf); repeat ((first | refine Wo ?_ | refine Lt (by decide) ?_ | refine Lf (by decide) ?_ | refine Cl (by decide) ?_ | refine Cr (by decide) ?_ | refine ⟨_, rfl, ?_⟩ | refine Mi rfl ?_); (conv => whnf)))
  refine litE rfl ?_
  ((conv => whnf); repeat ((first | refine Wo ?_ | refine Lt (by decide) ?_ | refine Lf (by decide) ?_ | refine Cl (by decide) ?_ | refine Cr (by decide) ?_ | refine ⟨_, rfl, ?_⟩ | refine Mi rfl ?_); (conv => whnf)))
  ((conv => whnf); ((repeat ((conv => arg 1; whnf); first | exact Tels.nil | apply Tels.cons | apply Tel.aggs | apply Tel.tups | exact Tel.refl _ | exact Tel.nil1 _ | exact Tel.cap _ _ _ _)); done))
theorem pr_take {l : List Int} {i : Nat} (h : i < l.length) : pr (l.drop i) = l[i] * pr (l.drop (i + 1)) := by rw [List.drop_eq_getElem_cons h, pr_cons]
theorem size_runs (l : List Int) (hl : l.length ≤ 9223372036854775807) : Runs Tryz.prog 45 [rI l none] (.tup [iD (sizeS l).1, iD (sizeS l).2]) := by
  have c1 := contFI_runs (l := l) (p := fun x => decide (x < 0)) (F := 96) hl (fun x _ => size1_runs x)
  have c2 := contFI_runs (l := l) (p := fun x => decide (1099511627776 < x)) (F := 97) hl (fun x _ => size2_runs x)
  have c3 := contI_runs (l := l) (z := 0) hl
  have e3 : l.any (fun x => (0 : Int) == x) = l.any (fun x => x == 0) := by
    congr 1; funext x; rw [Bool.eq_iff_iff, beq_iff_eq, beq_iff_eq]; exact eq_comm
  rw [e3] at c3
  unfold sizeS
  by_cases h3 : 3 < l.length
  · rw [if_pos h3]
    refine Runs.wp Go.Proofs.YtjldjhlccedkbaaGreatDoor.Am.hT Go.Proofs.YtjldjhlccedkbaaGreatDoor.Am.hm Tryz.func45 rfl (by decide) ⟨[], [0, 2, 3, 4, 6, 7, 11, 14, 17, 20, 21, 22, 23, 29], 35⟩ ?_; ((conv => whnf); repeat ((first | refine Wo ?_ | refine Lt (by decide) ?_ | refine Lf (by decide) ?_ | refine Cl (by decide) ?_ | refine Cr (by decide) ?_ | refine ⟨_, rfl, ?_⟩ | refine Mi rfl ?_); (conv => whnf)))
    refine Lt (by simp; omega) ?_
    ((conv => whnf); repeat ((first | refine Wo ?_ | refine Lt (by decide) ?_ | refine Lf (by decide) ?_ | refine Cl (by decide) ?_ | refine Cr (by decide) ?_ | refine ⟨_, rfl, ?_⟩ | refine Mi rfl ?_); (conv => whnf)))
    ((conv => whnf); ((repeat ((conv => arg 1; whnf); first | exact Tels.nil | apply Tels.cons | apply Tel.aggs | apply Tel.tups | exact Tel.refl _ | exact Tel.nil1 _ | exact Tel.cap _ _ _ _)); done))
  rw [if_neg h3]
  have g3 : decide (((l.length : Nat) : Int) > 3) = false := by simp; omega
  by_cases h5 : l.any (fun x => decide (x < 0)) = true
  · rw [if_pos h5]
    rw [h5] at c1
    refine Runs.wp Go.Proofs.YtjldjhlccedkbaaGreatDoor.Am.hT Go.Proofs.YtjldjhlccedkbaaGreatDoor.Am.hm Tryz.func45 rfl (by decide) ⟨[], [0, 2, 3, 4, 6, 7, 11, 14, 17, 20, 21, 22, 23, 29], 35⟩ ?_; ((conv => whnf); repeat ((first | refine Wo ?_ | refine Lt (by decide) ?_ | refine Lf (by decide) ?_ | refine Cl (by decide) ?_ | refine Cr (by decide) ?_ | refine ⟨_, rfl, ?_⟩ | refine Mi rfl ?_); (conv => whnf)))
    refine Lf g3 ?_
    ((conv => whnf); repeat ((first | refine Wo ?_ | refine Lt (by decide) ?_ | refine Lf (by decide) ?_ | refine Cl (by decide) ?_ | refine Cr (by decide) ?_ | refine ⟨_, rfl, ?_⟩ | refine Mi rfl ?_); (conv => whnf)))
    ((conv => whnf); (refine Hc.flat c1 ?_ rfl ?_; (focus ((repeat ((conv => arg 1; whnf); first | exact Tels.nil | apply Tels.cons | apply Tel.aggs | apply Tel.tups | exact Tel.refl _ | exact Tel.nil1 _ | exact Tel.cap _ _ _ _)); done))); ((conv => whnf); repeat ((first | refine Wo ?_ | refine Lt (by decide) ?_ | refine Lf (by decide) ?_ | refine Cl (by decide) ?_ | refine Cr (by decide) ?_ | refine ⟨_, rfl, ?_⟩ | refine Mi rfl ?_); (conv => whnf))))
    ((conv => whnf); ((repeat ((conv => arg 1; whnf); first | exact Tels.nil | apply Tels.cons | apply Tel.aggs | apply Tel.tups | exact Tel.refl _ | exact Tel.nil1 _ | exact Tel.cap _ _ _ _)); done))
  rw [if_neg h5]
  have n5 := any_false h5
  rw [Bool.eq_false_iff.mpr h5] at c1
  by_cases h8 : l.any (fun x => decide (1099511627776 < x)) = true
  · rw [if_pos h8]
    rw [h8] at c2
    refine Runs.wp Go.Proofs.YtjldjhlccedkbaaGreatDoor.Am.hT Go.Proofs.YtjldjhlccedkbaaGreatDoor.Am.hm Tryz.func45 rfl (by decide) ⟨[], [0, 2, 3, 4, 6, 7, 11, 14, 17, 20, 21, 22, 23, 29], 35⟩ ?_; ((conv => whnf); repeat ((first | refine Wo ?_ | refine Lt (by decide) ?_ | refine Lf (by decide) ?_ | refine Cl (by decide) ?_ | refine Cr (by decide) ?_ | refine ⟨_, rfl, ?_⟩ | refine Mi rfl ?_); (conv => whnf)))
    refine Lf g3 ?_
    ((conv => whnf); repeat ((first | refine Wo ?_ | refine Lt (by decide) ?_ | refine Lf (by decide) ?_ | refine Cl (by decide) ?_ | refine Cr (by decide) ?_ | refine ⟨_, rfl, ?_⟩ | refine Mi rfl ?_); (conv => whnf)))
    ((conv => whnf); (refine Hc.flat c1 ?_ rfl ?_; (focus ((repeat ((conv => arg 1; whnf); first | exact Tels.nil | apply Tels.cons | apply Tel.aggs | apply Tel.tups | exact Tel.refl _ | exact Tel.nil1 _ | exact Tel.cap _ _ _ _)); done))); ((conv => whnf); repeat ((first | refine Wo ?_ | refine Lt (by decide) ?_ | refine Lf (by decide) ?_ | refine Cl (by decide) ?_ | refine Cr (by decide) ?_ | refine ⟨_, rfl, ?_⟩ | refine Mi rfl ?_); (conv => whnf))))
    ((conv => whnf); (refine Hc.flat c2 ?_ rfl ?_; (focus ((repeat ((conv => arg 1; whnf); first | exact Tels.nil | apply Tels.cons | apply Tel.aggs | apply Tel.tups | exact Tel.refl _ | exact Tel.nil1 _ | exact Tel.cap _ _ _ _)); done))); ((conv => whnf); repeat ((first | refine Wo ?_ | refine Lt (by decide) ?_ | refine Lf (by decide) ?_ | refine Cl (by decide) ?_ | refine Cr (by decide) ?_ | refine ⟨_, rfl, ?_⟩ | refine Mi rfl ?_); (conv => whnf))))
    ((conv => whnf); ((repeat ((conv => arg 1; whnf); first | exact Tels.nil | apply Tels.cons | apply Tel.aggs | apply Tel.tups | exact Tel.refl _ | exact Tel.nil1 _ | exact Tel.cap _ _ _ _)); done))
  rw [if_neg h8]
  have n8 := any_false h8
  rw [Bool.eq_false_iff.mpr h8] at c2
  by_cases h0 : l.any (fun x => x == 0) = true
  · rw [if_pos h0]
    rw [h0] at c3
    refine Runs.wp Go.Proofs.YtjldjhlccedkbaaGreatDoor.Am.hT Go.Proofs.YtjldjhlccedkbaaGreatDoor.Am.hm Tryz.func45 rfl (by decide) ⟨[], [0, 2, 3, 4, 6, 7, 11, 14, 17, 20, 21, 22, 23, 29], 35⟩ ?_; ((conv => whnf); repeat ((first | refine Wo ?_ | refine Lt (by decide) ?_ | refine Lf (by decide) ?_ | refine Cl (by decide) ?_ | refine Cr (by decide) ?_ | refine ⟨_, rfl, ?_⟩ | refine Mi rfl ?_); (conv => whnf)))
    refine Lf g3 ?_
    ((conv => whnf); repeat ((first | refine Wo ?_ | refine Lt (by decide) ?_ | refine Lf (by decide) ?_ | refine Cl (by decide) ?_ | refine Cr (by decide) ?_ | refine ⟨_, rfl, ?_⟩ | refine Mi rfl ?_); (conv => whnf)))
    ((conv => whnf); (refine Hc.flat c1 ?_ rfl ?_; (focus ((repeat ((conv => arg 1; whnf); first | exact Tels.nil | apply Tels.cons | apply Tel.aggs | apply Tel.tups | exact Tel.refl _ | exact Tel.nil1 _ | exact Tel.cap _ _ _ _)); done))); ((conv => whnf); repeat ((first | refine Wo ?_ | refine Lt (by decide) ?_ | refine Lf (by decide) ?_ | refine Cl (by decide) ?_ | refine Cr (by decide) ?_ | refine ⟨_, rfl, ?_⟩ | refine Mi rfl ?_); (conv => whnf))))
    ((conv => whnf); (refine Hc.flat c2 ?_ rfl ?_; (focus ((repeat ((conv => arg 1; whnf); first | exact Tels.nil | apply Tels.cons | apply Tel.aggs | apply Tel.tups | exact Tel.refl _ | exact Tel.nil1 _ | exact Tel.cap _ _ _ _)); done))); ((conv => whnf); repeat ((first | refine Wo ?_ | refine Lt (by decide) ?_ | refine Lf (by decide) ?_ | refine Cl (by decide) ?_ | refine Cr (by decide) ?_ | refine ⟨_, rfl, ?_⟩ | refine Mi rfl ?_); (conv => whnf))))
    ((conv => whnf); (refine Hc.flat c3 ?_ rfl ?_; (focus ((repeat ((conv => arg 1; whnf); first | exact Tels.nil | apply Tels.cons | apply Tel.aggs | apply Tel.tups | exact Tel.refl _ | exact Tel.nil1 _ | exact Tel.cap _ _ _ _)); done))); ((conv => whnf); repeat ((first | refine Wo ?_ | refine Lt (by decide) ?_ | refine Lf (by decide) ?_ | refine Cl (by decide) ?_ | refine Cr (by decide) ?_ | refine ⟨_, rfl, ?_⟩ | refine Mi rfl ?_); (conv => whnf))))
    ((conv => whnf); ((repeat ((conv => arg 1; whnf); first | exact Tels.nil | apply Tels.cons | apply Tel.aggs | apply Tel.tups | exact Tel.refl _ | exact Tel.nil1 _ | exact Tel.cap _ _ _ _)); done))
  rw [if_neg h0]
  have n0 := any_false h0
  rw [Bool.eq_false_iff.mpr h0] at c3
  have hb : ∀ x ∈ l, 1 ≤ x ∧ x ≤ 1099511627776 := fun x hx => by
    have a := n5 x hx
    have b := n8 x hx
    have c := n0 x hx
    simp at a b c
    omega
  clear n5 n8 n0
  refine Runs.wp Go.Proofs.YtjldjhlccedkbaaGreatDoor.Am.hT Go.Proofs.YtjldjhlccedkbaaGreatDoor.Am.hm Tryz.func45 rfl (by decide) ⟨[], [0, 2, 3, 4, 6, 7, 11, 14, 17, 20, 21, 22, 23, 29], 35⟩ ?_; ((conv => whnf); repeat ((first | refine Wo ?_ | refine Lt (by decide) ?_ | refine Lf (by decide) ?_ | refine Cl (by decide) ?_ | refine Cr (by decide) ?_ | refine ⟨_, rfl, ?_⟩ | refine Mi rfl ?_); (conv => whnf)))
  refine Lf g3 ?_
  ((conv => whnf); repeat ((first | refine Wo ?_ | refine Lt (by decide) ?_ | refine Lf (by decide) ?_ | refine Cl (by decide) ?_ | refine Cr (by decide) ?_ | refine ⟨_, rfl, ?_⟩ | refine Mi rfl ?_); (conv => whnf)))
  ((conv => whnf); (refine Hc.flat c1 ?_ rfl ?_; (focus ((repeat ((conv => arg 1; whnf); first | exact Tels.nil | apply Tels.cons | apply Tel.aggs | apply Tel.tups | exact Tel.refl _ | exact Tel.nil1 _ | exact Tel.cap _ _ _ _)); done))); ((conv => whnf); repeat ((first | refine Wo ?_ | refine Lt (by decide) ?_ | refine Lf (by decide) ?_ | refine Cl (by decide) ?_ | refine Cr (by decide) ?_ | refine ⟨_, rfl, ?_⟩ | refine Mi rfl ?_); (conv => whnf))))
  ((conv => whnf); (refine Hc.flat c2 ?_ rfl ?_; (focus ((repeat ((conv => arg 1; whnf); first | exact Tels.nil | apply Tels.cons | apply Tel.aggs | apply Tel.tups | exact Tel.refl _ | exact Tel.nil1 _ | exact Tel.cap _ _ _ _)); done))); ((conv => whnf); repeat ((first | refine Wo ?_ | refine Lt (by decide) ?_ | refine Lf (by decide) ?_ | refine Cl (by decide) ?_ | refine Cr (by decide) ?_ | refine ⟨_, rfl, ?_⟩ | refine Mi rfl ?_); (conv => whnf))))
  ((conv => whnf); (refine Hc.flat c3 ?_ rfl ?_; (focus ((repeat ((conv => arg 1; whnf); first | exact Tels.nil | apply Tels.cons | apply Tel.aggs | apply Tel.tups | exact Tel.refl _ | exact Tel.nil1 _ | exact Tel.cap _ _ _ _)); done))); ((conv => whnf); repeat ((first | refine Wo ?_ | refine Lt (by decide) ?_ | refine Lf (by decide) ?_ | refine Cl (by decide) ?_ | refine Cr (by decide) ?_ | refine ⟨_, rfl, ?_⟩ | refine Mi rfl ?_); (conv => whnf))))
  refine loop_ind (fun k (x : Nat × Int) => x.1 + k = l.length + 1 ∧ x.1 ≤ l.length ∧ 1 ≤ x.2 ∧ x.2 ≤ 4096 ∧ pr l = x.2 * pr (l.drop x.1)) (fun x => { t := pin [(0, .d (rI l none)), (4, .d (iD x.2)), (20, .d (rI l none)), (21, .d (iD l.length)), (22, .d (iD x.1))], N := 35, h := hpin [], n := 0, lo := 0 }) (fun i h => by omega) ?_ (l.length + 1) (0, 1) ⟨by simp, by simp, by simp, by simp, by simp⟩ _ ?_
  · rintro k ⟨i, z⟩ R ih ⟨hk, hi, hz1, hz2, he⟩
    dsimp only at *
    by_cases hlt : i < l.length
    · have hxm := hb l[i] (List.getElem_mem hlt)
      have hd := pr_take hlt
      have hp1 : 1 ≤ pr (l.drop (i + 1)) := pr_pos fun y hy => (hb y (List.mem_of_mem_drop hy)).1
      rw [hd] at he
      generalize hxe : l[i] = x at *
      have eq1 : Int.tdiv 4096 z = 4096 / z := Int.tdiv_eq_ediv_of_nonneg (by decide)
      have eq3 : 0 ≤ 4096 / z ∧ 4096 / z ≤ 4096 := ⟨Int.ediv_nonneg (by decide) (by omega), Int.ediv_le_self _ (by decide)⟩
      have eq2 : IntKind.i64.wrap (Int.tdiv 4096 z) = 4096 / z := by rw [eq1]; exact i64w (by omega) (by omega)
      have hix : (l.map iD)[(i : Int).toNat * 1]? = some (iD x) := ixm (j := i) (by simp [hlt, hxe]) (by simp)
      by_cases hbig : 4096 / z < x
      · have hf : fin (pr l) = (0, 8) := by
          refine fin_gt ?_
          have : 4096 < x * z := (Int.ediv_lt_iff_lt_mul (by omega)).1 hbig
          have h2 : x * z ≤ pr l := by
            rw [he, ← Int.mul_assoc, Int.mul_comm z x]
            have := Int.mul_le_mul_of_nonneg_left hp1 (show 0 ≤ x * z by omega)
            rwa [Int.mul_one] at this
          omega
        rw [hf]
        ((conv => whnf); repeat ((first | refine Wo ?_ | refine Lt (by decide) ?_ | refine Lf (by decide) ?_ | refine Cl (by decide) ?_ | refine Cr (by decide) ?_ | refine ⟨_, rfl, ?_⟩ | refine Mi rfl ?_); (conv => whnf)))
        refine Lt (by simpa using hlt) ?_
        ((conv => whnf); repeat ((first | refine Wo ?_ | refine Lt (by decide) ?_ | refine Lf (by decide) ?_ | refine Cl (by decide) ?_ | refine Cr (by decide) ?_ | refine ⟨_, rfl, ?_⟩ | refine Mi rfl ?_ | (refine And.intro ?_ ?_; focus (first | decide | rfl | assumption | omega | (dsimp only; omega) | (unfold maxLen; omega) | ((try dsimp only [maxLen]); simp only [List.length_append, List.length_cons, List.length_nil, List.length_map, List.length_range, List.length_set, List.length_replicate]; omega) | ((try dsimp only [maxLen]); simp only [IntKind.wrap_i64, IntKind.wrap_u64, List.length_append, List.length_cons, List.length_nil, List.length_map, List.length_range, List.length_set, List.length_replicate]; omega) | ((try dsimp only [maxLen]); simp only [List.length_append, List.length_cons, List.length_nil, List.length_map, List.length_range, List.length_set, List.length_replicate] at *; omega)))); (conv => whnf)))
        ((conv => whnf); refine ⟨_, hix, ?_⟩; ((conv => whnf); repeat ((first | refine Wo ?_ | refine Lt (by decide) ?_ | refine Lf (by decide) ?_ | refine Cl (by decide) ?_ | refine Cr (by decide) ?_ | refine ⟨_, rfl, ?_⟩ | refine Mi rfl ?_); (conv => whnf))))
        refine ⟨rfl, by omega, ?_⟩
        ((conv => whnf); repeat ((first | refine Wo ?_ | refine Lt (by decide) ?_ | refine Lf (by decide) ?_ | refine Cl (by decide) ?_ | refine Cr (by decide) ?_ | refine ⟨_, rfl, ?_⟩ | refine Mi rfl ?_); (conv => whnf)))
        refine Lt (by rw [eq2]; simpa using hbig) ?_
        ((conv => whnf); repeat ((first | refine Wo ?_ | refine Lt (by decide) ?_ | refine Lf (by decide) ?_ | refine Cl (by decide) ?_ | refine Cr (by decide) ?_ | refine ⟨_, rfl, ?_⟩ | refine Mi rfl ?_); (conv => whnf)))
        ((conv => whnf); ((repeat ((conv => arg 1; whnf); first | exact Tels.nil | apply Tels.cons | apply Tel.aggs | apply Tel.tups | exact Tel.refl _ | exact Tel.nil1 _ | exact Tel.cap _ _ _ _)); done))
      · have hm : x * z ≤ 4096 := by
          have : ¬ 4096 < x * z := fun h => hbig ((Int.ediv_lt_iff_lt_mul (by omega)).2 h)
          omega
        have hm1 : 1 ≤ z * x := by
          have := Int.mul_le_mul hz1 hxm.1 (by omega) (by omega)
          simpa using this
        rw [Int.mul_comm] at hm
        ((conv => whnf); repeat ((first | refine Wo ?_ | refine Lt (by decide) ?_ | refine Lf (by decide) ?_ | refine Cl (by decide) ?_ | refine Cr (by decide) ?_ | refine ⟨_, rfl, ?_⟩ | refine Mi rfl ?_); (conv => whnf)))
        refine Lt (by simpa using hlt) ?_
        ((conv => whnf); repeat ((first | refine Wo ?_ | refine Lt (by decide) ?_ | refine Lf (by decide) ?_ | refine Cl (by decide) ?_ | refine Cr (by decide) ?_ | refine ⟨_, rfl, ?_⟩ | refine Mi rfl ?_ | (refine And.intro ?_ ?_; focus (first | decide | rfl | assumption | omega | (dsimp only; omega) | (unfold maxLen; omega) | ((try dsimp only [maxLen]); simp only [List.length_append, List.length_cons, List.length_nil, List.length_map, List.length_range, List.length_set, List.length_replicate]; omega) | ((try dsimp only [maxLen]); simp only [IntKind.wrap_i64, IntKind.wrap_u64, List.length_append, List.length_cons, List.length_nil, List.length_map, List.length_range, List.length_set, List.length_replicate]; omega) | ((try dsimp only [maxLen]); simp only [List.length_append, List.length_cons, List.length_nil, List.length_map, List.length_range, List.length_set, List.length_replicate] at *; omega)))); (conv => whnf)))
        ((conv => whnf); refine ⟨_, hix, ?_⟩; ((conv => whnf); repeat ((first | refine Wo ?_ | refine Lt (by decide) ?_ | refine Lf (by decide) ?_ | refine Cl (by decide) ?_ | refine Cr (by decide) ?_ | refine ⟨_, rfl, ?_⟩ | refine Mi rfl ?_); (conv => whnf))))
        refine ⟨rfl, by omega, ?_⟩
        ((conv => whnf); repeat ((first | refine Wo ?_ | refine Lt (by decide) ?_ | refine Lf (by decide) ?_ | refine Cl (by decide) ?_ | refine Cr (by decide) ?_ | refine ⟨_, rfl, ?_⟩ | refine Mi rfl ?_); (conv => whnf)))
        refine Lf (by rw [eq2]; simpa using hbig) ?_
        ((conv => whnf); repeat ((first | refine Wo ?_ | refine Lt (by decide) ?_ | refine Lf (by decide) ?_ | refine Cl (by decide) ?_ | refine Cr (by decide) ?_ | refine ⟨_, rfl, ?_⟩ | refine Mi rfl ?_); (conv => whnf)))
        refine ih (i + 1, z * x) _ ⟨by dsimp only; omega, by dsimp only; omega, hm1, hm, by dsimp only; rw [he, Int.mul_assoc]⟩ ?_
        (refine Wk.to _ _ ?_ ?_ <;> (repeat' first | exact trivial | rfl | (refine And.intro ?_ ?_)))
        · exact inE (i64w (by omega) (by omega))
        · exact inE (i64n (by simp) (by omega))
    · have hf : pr l = z := by rw [he, List.drop_eq_nil_of_le (by omega), pr_nil]; omega
      rw [hf, fin_le hz2]
      ((conv => whnf); repeat ((first | refine Wo ?_ | refine Lt (by decide) ?_ | refine Lf (by decide) ?_ | refine Cl (by decide) ?_ | refine Cr (by decide) ?_ | refine ⟨_, rfl, ?_⟩ | refine Mi rfl ?_); (conv => whnf)))
      refine Lf (by simpa using hlt) ?_
      ((conv => whnf); repeat ((first | refine Wo ?_ | refine Lt (by decide) ?_ | refine Lf (by decide) ?_ | refine Cl (by decide) ?_ | refine Cr (by decide) ?_ | refine ⟨_, rfl, ?_⟩ | refine Mi rfl ?_); (conv => whnf)))
      ((conv => whnf); ((repeat ((conv => arg 1; whnf); first | exact Tels.nil | apply Tels.cons | apply Tel.aggs | apply Tel.tups | exact Tel.refl _ | exact Tel.nil1 _ | exact Tel.cap _ _ _ _)); done))
  · (refine Wk.to _ _ ?_ ?_ <;> (repeat' first | exact trivial | rfl | (refine And.intro ?_ ?_)))
end Go.Proofs.YtjldjhlccedkbaaGreatDoor.Am
end
section
/- Sizes in parts of nine figures. -/
namespace Go.Proofs.YtjldjhlccedkbaaGreatDoor.Am
open Go Go.RowKit Go.Proofs.YtjldjhlccedkbaaGreatDoor.Nm
set_option linter.unusedVariables false
set_option linter.unusedSimpArgs false
set_option maxRecDepth 100000
theorem trim_runs (m : List Nat) (hp : Pt m) (hm : m.length ≤ 1000000000) : Runs Tryz.prog 159 [rU m none] (rU (mg (mv m)) none) := by
  refine Runs.wp Go.Proofs.YtjldjhlccedkbaaGreatDoor.Am.hT Go.Proofs.YtjldjhlccedkbaaGreatDoor.Am.hm Tryz.func159 rfl (by decide) ⟨[], [0, 2, 14], 21⟩ ?_; ((conv => whnf); repeat ((first | refine Wo ?_ | refine Lt (by decide) ?_ | refine Lf (by decide) ?_ | refine Cl (by decide) ?_ | refine Cr (by decide) ?_ | refine ⟨_, rfl, ?_⟩ | refine Mi rfl ?_); (conv => whnf)))
  refine loop_ind (fun k (l : List Nat) => l.length < k ∧ l.length ≤ 1000000000 ∧ Pt l ∧ mv l = mv m) (fun l => { t := pin [(0, .d (rU l none))], N := 21, h := hpin [], n := 0, lo := 0 }) (fun l h => by omega) ?_ (m.length + 1) m ⟨by omega, hm, hp, rfl⟩ _ ?_
  · rintro k l R ih ⟨hk, hl1, hl, hv⟩
    rw [← hv]
    rcases snoc_cases l with rfl | ⟨p, x, rfl⟩
    · rw [show mg (mv []) = [] from mg_zero]
      ((conv => whnf); repeat ((first | refine Wo ?_ | refine Lt (by decide) ?_ | refine Lf (by decide) ?_ | refine Cl (by decide) ?_ | refine Cr (by decide) ?_ | refine ⟨_, rfl, ?_⟩ | refine Mi rfl ?_); (conv => whnf)))
      ((conv => whnf); ((repeat ((conv => arg 1; whnf); first | exact Tels.nil | apply Tels.cons | apply Tel.aggs | apply Tel.tups | exact Tel.refl _ | exact Tel.nil1 _ | exact Tel.cap _ _ _ _)); done))
    · have e1 : IntKind.i64.wrap (((p ++ [x]).length : Nat) - 1) = p.length := i64n (by simp) (by simp at hl1; omega)
      ((conv => whnf); repeat ((first | refine Wo ?_ | refine Lt (by decide) ?_ | refine Lf (by decide) ?_ | refine Cl (by decide) ?_ | refine Cr (by decide) ?_ | refine ⟨_, rfl, ?_⟩ | refine Mi rfl ?_); (conv => whnf)))
      refine Lt (by simp) ?_
      ((conv => whnf); repeat ((first | refine Wo ?_ | refine Lt (by decide) ?_ | refine Lf (by decide) ?_ | refine Cl (by decide) ?_ | refine Cr (by decide) ?_ | refine ⟨_, rfl, ?_⟩ | refine Mi rfl ?_ | (refine And.intro ?_ ?_; focus (first | decide | rfl | assumption | omega | (dsimp only; omega) | (unfold maxLen; omega) | ((try dsimp only [maxLen]); simp only [List.length_append, List.length_cons, List.length_nil, List.length_map, List.length_range, List.length_set, List.length_replicate]; omega) | ((try dsimp only [maxLen]); simp only [IntKind.wrap_i64, IntKind.wrap_u64, List.length_append, List.length_cons, List.length_nil, List.length_map, List.length_range, List.length_set, List.length_replicate]; omega) | ((try dsimp only [maxLen]); simp only [List.length_append, List.length_cons, List.length_nil, List.length_map, List.length_range, List.length_set, List.length_replicate] at *; omega)))); (conv => whnf)))
      ((conv => whnf); refine ⟨_, ixm (j := p.length) (x := x) (by simp) (by rw [e1]; simp), ?_⟩; ((conv => whnf); repeat ((first | refine Wo ?_ | refine Lt (by decide) ?_ | refine Lf (by decide) ?_ | refine Cl (by decide) ?_ | refine Cr (by decide) ?_ | refine ⟨_, rfl, ?_⟩ | refine Mi rfl ?_); (conv => whnf))))
      ((conv => whnf); refine Lb (fun hb => ?_) (fun hb => ?_))
      · ((conv => whnf); repeat ((first | refine Wo ?_ | refine Lt (by decide) ?_ | refine Lf (by decide) ?_ | refine Cl (by decide) ?_ | refine Cr (by decide) ?_ | refine ⟨_, rfl, ?_⟩ | refine Mi rfl ?_ | (refine And.intro ?_ ?_; focus (first | decide | rfl | assumption | omega | (dsimp only; omega) | (unfold maxLen; omega) | ((try dsimp only [maxLen]); simp only [List.length_append, List.length_cons, List.length_nil, List.length_map, List.length_range, List.length_set, List.length_replicate]; omega) | ((try dsimp only [maxLen]); simp only [IntKind.wrap_i64, IntKind.wrap_u64, List.length_append, List.length_cons, List.length_nil, List.length_map, List.length_range, List.length_set, List.length_replicate]; omega) | ((try dsimp only [maxLen]); simp only [List.length_append, List.length_cons, List.length_nil, List.length_map, List.length_range, List.length_set, List.length_replicate] at *; omega)))); (conv => whnf)))
        refine ih p _ ⟨by simp at hk; omega, by simp at hl1; omega, fun y hy => hl y (by simp [hy]), ?_⟩ ?_
        · rw [← hv, mv_snoc]
          simp at hb
          simp [hb]
        · (refine Wk.to _ _ ?_ ?_ <;> (repeat' first | exact trivial | rfl | (refine And.intro ?_ ?_)))
          exact slE (by rw [e1]; simp) (by rw [e1]; simp) rfl
      · ((conv => whnf); repeat ((first | refine Wo ?_ | refine Lt (by decide) ?_ | refine Lf (by decide) ?_ | refine Cl (by decide) ?_ | refine Cr (by decide) ?_ | refine ⟨_, rfl, ?_⟩ | refine Mi rfl ?_); (conv => whnf)))
        rw [canonM _ hl fun p' x' e => ?_]
        · ((conv => whnf); ((repeat ((conv => arg 1; whnf); first | exact Tels.nil | apply Tels.cons | apply Tel.aggs | apply Tel.tups | exact Tel.refl _ | exact Tel.nil1 _ | exact Tel.cap _ _ _ _)); done))
        · have := List.append_inj' e rfl
          simp at this hb
          omega
  · (refine Wk.to _ _ ?_ ?_ <;> (repeat' first | exact trivial | rfl | (refine And.intro ?_ ?_)))
theorem at_runs (m : List Nat) (i : Nat) (hm : m.length ≤ 1000000000) : Runs Tryz.prog 158 [rU m none, iD i] (uD (m.getD i 0)) := by
  by_cases h : i < m.length
  · refine Runs.wp Go.Proofs.YtjldjhlccedkbaaGreatDoor.Am.hT Go.Proofs.YtjldjhlccedkbaaGreatDoor.Am.hm Tryz.func158 rfl (by decide) ⟨[], [0, 1, 4, 8], 13⟩ ?_; ((conv => whnf); repeat ((first | refine Wo ?_ | refine Lt (by decide) ?_ | refine Lf (by decide) ?_ | refine Cl (by decide) ?_ | refine Cr (by decide) ?_ | refine ⟨_, rfl, ?_⟩ | refine Mi rfl ?_); (conv => whnf)))
    refine Lt (by simpa using h) ?_
    ((conv => whnf); repeat ((first | refine Wo ?_ | refine Lt (by decide) ?_ | refine Lf (by decide) ?_ | refine Cl (by decide) ?_ | refine Cr (by decide) ?_ | refine ⟨_, rfl, ?_⟩ | refine Mi rfl ?_ | (refine And.intro ?_ ?_; focus (first | decide | rfl | assumption | omega | (dsimp only; omega) | (unfold maxLen; omega) | ((try dsimp only [maxLen]); simp only [List.length_append, List.length_cons, List.length_nil, List.length_map, List.length_range, List.length_set, List.length_replicate]; omega) | ((try dsimp only [maxLen]); simp only [IntKind.wrap_i64, IntKind.wrap_u64, List.length_append, List.length_cons, List.length_nil, List.length_map, List.length_range, List.length_set, List.length_replicate]; omega) | ((try dsimp only [maxLen]); simp only [List.length_append, List.length_cons, List.length_nil, List.length_map, List.length_range, List.length_set, List.length_replicate] at *; omega)))); (conv => whnf)))
    ((conv => whnf); refine ⟨_, ixm (j := i) (x := m.getD i 0) (by simp [h]) (by simp), ?_⟩; ((conv => whnf); repeat ((first | refine Wo ?_ | refine Lt (by decide) ?_ | refine Lf (by decide) ?_ | refine Cl (by decide) ?_ | refine Cr (by decide) ?_ | refine ⟨_, rfl, ?_⟩ | refine Mi rfl ?_); (conv => whnf))))
    ((conv => whnf); ((repeat ((conv => arg 1; whnf); first | exact Tels.nil | apply Tels.cons | apply Tel.aggs | apply Tel.tups | exact Tel.refl _ | exact Tel.nil1 _ | exact Tel.cap _ _ _ _)); done))
  · rw [List.getD_eq_getElem?_getD, List.getElem?_eq_none (by omega)]
    refine Runs.wp Go.Proofs.YtjldjhlccedkbaaGreatDoor.Am.hT Go.Proofs.YtjldjhlccedkbaaGreatDoor.Am.hm Tryz.func158 rfl (by decide) ⟨[], [0, 1, 4, 8], 13⟩ ?_; ((conv => whnf); repeat ((first | refine Wo ?_ | refine Lt (by decide) ?_ | refine Lf (by decide) ?_ | refine Cl (by decide) ?_ | refine Cr (by decide) ?_ | refine ⟨_, rfl, ?_⟩ | refine Mi rfl ?_); (conv => whnf)))
    refine Lf (by simpa using h) ?_
    ((conv => whnf); repeat ((first | refine Wo ?_ | refine Lt (by decide) ?_ | refine Lf (by decide) ?_ | refine Cl (by decide) ?_ | refine Cr (by decide) ?_ | refine ⟨_, rfl, ?_⟩ | refine Mi rfl ?_); (conv => whnf)))
    ((conv => whnf); ((repeat ((conv => arg 1; whnf); first | exact Tels.nil | apply Tels.cons | apply Tel.aggs | apply Tel.tups | exact Tel.refl _ | exact Tel.nil1 _ | exact Tel.cap _ _ _ _)); done))
theorem tdivB (n : Nat) : (n : Int).tdiv 1000000000 = ((n / 1000000000 : Nat) : Int) := rfl
theorem tmodB (n : Nat) : (n : Int).tmod 1000000000 = ((n % 1000000000 : Nat) : Int) := rfl
theorem carry (x B : Nat) : B * (x % 1000000000) + x / 1000000000 * (B * 1000000000) = B * x := by
  rw [Nat.mul_comm B 1000000000, ← Nat.mul_assoc, Nat.mul_comm (x / 1000000000 * 1000000000) B, ← Nat.mul_add, Nat.mul_comm (x / 1000000000), Nat.mod_add_div]
theorem sum_runs (a b : List Nat) (ha : Pt a) (hb : Pt b) (hla : a.length ≤ 100000) (hlb : b.length ≤ 100000) : Runs Tryz.prog 155 [rU a none, rU b none] (rU (mg (mv a + mv b)) none) := by
  obtain ⟨M, hM⟩ : ∃ M, M = max a.length b.length := ⟨_, rfl⟩
  have eM : IntKind.i64.wrap ((if (a.length : Int) < b.length then (b.length : Int) else a.length) + 1) = ((M + 1 : Nat) : Int) := i64n (by split <;> omega) (by omega)
  refine Runs.wp Go.Proofs.YtjldjhlccedkbaaGreatDoor.Am.hT Go.Proofs.YtjldjhlccedkbaaGreatDoor.Am.hm Tryz.func155 rfl (by decide) ⟨[], [0, 1, 4, 5, 6, 7, 8, 14, 15, 16], 37⟩ ?_; ((conv => whnf); repeat ((first | refine Wo ?_ | refine Lt (by decide) ?_ | refine Lf (by decide) ?_ | refine Cl (by decide) ?_ | refine Cr (by decide) ?_ | refine ⟨_, rfl, ?_⟩ | refine Mi rfl ?_); (conv => whnf)))
  refine loop_ind (fun k (x : List Nat × Nat) => k + x.1.length = M + 2 ∧ x.1.length ≤ M + 1 ∧ Pt x.1 ∧ x.2 ≤ 1 ∧ mv x.1 + x.2 * 1000000000 ^ x.1.length = mv a % 1000000000 ^ x.1.length + mv b % 1000000000 ^ x.1.length)
    (fun x => { t := pin [(0, .d (rU a none)), (1, .d (rU b none)), (5, .bs 0), (6, .d (uD x.2)), (14, .d (iD (M + 1 : Nat))), (15, .d (iD x.1.length))], N := 37, h := hpin [some (.ar 154 1 x.1.length (x.1.map uD))], n := 1, lo := 0 }) (fun x h => by omega) ?_ (M + 2) ([], 0) ⟨rfl, by simp, fun x hx => by simp at hx, by simp, by simp [mv, Nat.mod_one]⟩ _ ?_
  · rintro k ⟨m, c⟩ R ih ⟨hk, hi, hm, hc, he⟩
    simp only at *
    ((conv => whnf); repeat ((first | refine Wo ?_ | refine Lt (by decide) ?_ | refine Lf (by decide) ?_ | refine Cl (by decide) ?_ | refine Cr (by decide) ?_ | refine ⟨_, rfl, ?_⟩ | refine Mi rfl ?_); (conv => whnf)))
    ((conv => whnf); refine Lb (fun hlt => ?_) (fun hlt => ?_))
    · have hlt' : m.length < M + 1 := by simp at hlt; omega
      have xa : a.getD m.length 0 < 1000000000 := by rw [Nm.part a ha]; exact Nat.mod_lt _ (by decide)
      have xb : b.getD m.length 0 < 1000000000 := by rw [Nm.part b hb]; exact Nat.mod_lt _ (by decide)
      have en : IntKind.u64.wrap (IntKind.u64.wrap ((a.getD m.length 0 : Nat) + (b.getD m.length 0 : Nat)) + c) = ((a.getD m.length 0 + b.getD m.length 0 + c : Nat) : Int) := by
        rw [u64w (x := ((a.getD m.length 0 : Nat) : Int) + (b.getD m.length 0 : Nat)) (by omega) (by omega), u64w (by omega) (by omega)]; omega
      ((conv => whnf); repeat ((first | refine Wo ?_ | refine Lt (by decide) ?_ | refine Lf (by decide) ?_ | refine Cl (by decide) ?_ | refine Cr (by decide) ?_ | refine ⟨_, rfl, ?_⟩ | refine Mi rfl ?_); (conv => whnf)))
      ((conv => whnf); (refine Hc.flat (at_runs a m.length (by omega)) ?_ rfl ?_; (focus ((repeat ((conv => arg 1; whnf); first | exact Tels.nil | apply Tels.cons | apply Tel.aggs | apply Tel.tups | exact Tel.refl _ | exact Tel.nil1 _ | exact Tel.cap _ _ _ _)); done))); ((conv => whnf); repeat ((first | refine Wo ?_ | refine Lt (by decide) ?_ | refine Lf (by decide) ?_ | refine Cl (by decide) ?_ | refine Cr (by decide) ?_ | refine ⟨_, rfl, ?_⟩ | refine Mi rfl ?_); (conv => whnf))))
      ((conv => whnf); (refine Hc.flat (at_runs b m.length (by omega)) ?_ rfl ?_; (focus ((repeat ((conv => arg 1; whnf); first | exact Tels.nil | apply Tels.cons | apply Tel.aggs | apply Tel.tups | exact Tel.refl _ | exact Tel.nil1 _ | exact Tel.cap _ _ _ _)); done))); ((conv => whnf); repeat ((first | refine Wo ?_ | refine Lt (by decide) ?_ | refine Lf (by decide) ?_ | refine Cl (by decide) ?_ | refine Cr (by decide) ?_ | refine ⟨_, rfl, ?_⟩ | refine Mi rfl ?_); (conv => whnf))))
      ((conv => whnf); repeat ((first | refine Wo ?_ | refine Lt (by decide) ?_ | refine Lf (by decide) ?_ | refine Cl (by decide) ?_ | refine Cr (by decide) ?_ | refine ⟨_, rfl, ?_⟩ | refine Mi rfl ?_ | (refine And.intro ?_ ?_; focus (first | decide | rfl | assumption | omega | (dsimp only; omega) | (unfold maxLen; omega) | ((try dsimp only [maxLen]); simp only [List.length_append, List.length_cons, List.length_nil, List.length_map, List.length_range, List.length_set, List.length_replicate]; omega) | ((try dsimp only [maxLen]); simp only [IntKind.wrap_i64, IntKind.wrap_u64, List.length_append, List.length_cons, List.length_nil, List.length_map, List.length_range, List.length_set, List.length_replicate]; omega) | ((try dsimp only [maxLen]); simp only [List.length_append, List.length_cons, List.length_nil, List.length_map, List.length_range, List.length_set, List.length_replicate] at *; omega)))); (conv => whnf)))
      refine ih (m ++ [(a.getD m.length 0 + b.getD m.length 0 + c) % 1000000000], (a.getD m.length 0 + b.getD m.length 0 + c) / 1000000000) _ ⟨by simp; omega, by simp; omega, ?_, ?_, ?_⟩ ?_
      · exact pt_append hm (pt_one (Nat.mod_lt _ (by decide)))
      · dsimp only; omega
      · dsimp only
        rw [mv_snoc, List.length_append, List.length_singleton, low_stepB, low_stepB, ← Nm.part a ha, ← Nm.part b hb, Nat.pow_succ, Nat.add_assoc, carry, Nat.mul_add, Nat.mul_add, Nat.mul_comm _ c]
        omega
      · dsimp only
        (refine Wk.pin [2] _ _ ?_ ?_ rfl rfl (by decide) rfl rfl <;> (repeat' first | exact trivial | rfl | (refine And.intro ?_ ?_)))
        · exact inE (by rw [en, tdivB, u64w (by omega) (by omega)])
        · exact inE (i64n (by simp) (by simp; omega))
        · exact arE (by rw [en, tmodB, List.map_append]; rfl) (by simp)
    · have hii : m.length = M + 1 := by simp at hlt; omega
      have hev : mv m = mv a + mv b := by
        have h1 := Nat.lt_of_lt_of_le (mv_lt a ha) (Nat.pow_le_pow_right (n := 1000000000) (by decide) (show a.length ≤ M by omega))
        have h2 := Nat.lt_of_lt_of_le (mv_lt b hb) (Nat.pow_le_pow_right (n := 1000000000) (by decide) (show b.length ≤ M by omega))
        have h3 := mv_lt m hm
        rw [hii, Nat.pow_succ] at he h3
        rw [Nat.mod_eq_of_lt (by omega), Nat.mod_eq_of_lt (by omega)] at he
        by_cases h0 : c = 0
        · subst h0; omega
        · have : c = 1 := by omega
          subst this
          omega
      rw [← hev]
      ((conv => whnf); repeat ((first | refine Wo ?_ | refine Lt (by decide) ?_ | refine Lf (by decide) ?_ | refine Cl (by decide) ?_ | refine Cr (by decide) ?_ | refine ⟨_, rfl, ?_⟩ | refine Mi rfl ?_); (conv => whnf)))
      ((conv => whnf); (refine Hc.runs (trim_runs m hm (by omega)) ?_ ?_; (focus ((repeat ((conv => arg 1; whnf); first | exact Tels.nil | apply Tels.cons | apply Tel.aggs | apply Tel.tups | exact Tel.refl _ | exact Tel.nil1 _ | exact Tel.cap _ _ _ _)); done))); ((conv => whnf); repeat ((first | refine Wo ?_ | refine Lt (by decide) ?_ | refine Lf (by decide) ?_ | refine Cl (by decide) ?_ | refine Cr (by decide) ?_ | refine ⟨_, rfl, ?_⟩ | refine Mi rfl ?_); (conv => whnf))))
      ((conv => whnf); ((repeat ((conv => arg 1; whnf); first | exact Tels.nil | apply Tels.cons | apply Tel.aggs | apply Tel.tups | exact Tel.refl _ | exact Tel.nil1 _ | exact Tel.cap _ _ _ _)); done))
  · refine (Wk.virt 5 154 1 rfl (show 5 < 37 by decide)).trans ?_
    (refine Wk.to _ _ ?_ ?_ <;> (repeat' first | exact trivial | rfl | (refine And.intro ?_ ?_)))
    exact inE eM
def uV (l : List Nat) : List Value := l.map fun n : Nat => .int .u64 n
theorem uV_one (l : List Nat) : (uV l).all Value.oneCell' = true := by simp [uV, List.all_eq_true, Value.oneCell']
theorem uV_D (l : List Nat) : (uV l).map D.v = l.map uD := by unfold uV; rw [List.map_map]; rfl
theorem less_runsR (a b : List Nat) (ha : Pt a) (hb : Pt b) (hla : a.length ≤ 100000) (hlb : b.length ≤ 100000) (hle : mv b ≤ mv a) : RunsR Tryz.prog 157 [rU a none, rU b none] 154 (uV (mg (mv a - mv b))) := by
  refine Runs.wpR Go.Proofs.YtjldjhlccedkbaaGreatDoor.Am.hT Go.Proofs.YtjldjhlccedkbaaGreatDoor.Am.hm Tryz.func157 rfl (by decide) ⟨[(6, .first 0 (.first 1 (.first 2 (.first 5 (.first 6 (.first 9 (.alt 3 (.first 4 (.alt 7 (.first 8 (.first 10 (.first 11 .done))) .nil)) (.alt 7 (.load 3 [4, 8, 10, 11] (.first 4 (.first 8 (.first 10 (.first 11 .done))))) .nil))))))))], [0, 1, 4, 5, 6, 7, 8, 10, 11, 12], 36⟩ ?_; ((conv => whnf); repeat ((first | refine Wo ?_ | refine Lt (by decide) ?_ | refine Lf (by decide) ?_ | refine Cl (by decide) ?_ | refine Cr (by decide) ?_ | refine ⟨_, rfl, ?_⟩ | refine Mi rfl ?_); (conv => whnf)))
  refine loop_ind (fun k (x : List Nat × Nat) => k + x.1.length = a.length + 1 ∧ x.1.length ≤ a.length ∧ Pt x.1 ∧ x.2 ≤ 1 ∧ mv x.1 + mv b % 1000000000 ^ x.1.length = mv a % 1000000000 ^ x.1.length + x.2 * 1000000000 ^ x.1.length)
    (fun x => { t := pin [(0, .d (rU a none)), (1, .d (rU b none)), (5, .bs 0), (6, .d (uD x.2)), (10, .d (iD a.length)), (11, .d (iD x.1.length))], N := 36, h := hpin [some (.ar 154 1 x.1.length (x.1.map uD))], n := 1, lo := 0 }) (fun x h => by omega) ?_ (a.length + 1) ([], 0) ⟨rfl, by simp, fun x hx => by simp at hx, by simp, by simp [mv, Nat.mod_one]⟩ _ ?_
  · rintro k ⟨m, c⟩ R ih ⟨hk, hi, hm, hc, he⟩
    simp only at *
    ((conv => whnf); repeat ((first | refine Wo ?_ | refine Lt (by decide) ?_ | refine Lf (by decide) ?_ | refine Cl (by decide) ?_ | refine Cr (by decide) ?_ | refine ⟨_, rfl, ?_⟩ | refine Mi rfl ?_); (conv => whnf)))
    ((conv => whnf); refine Lb (fun hlt => ?_) (fun hlt => ?_))
    · have hlt' : m.length < a.length := by simpa using hlt
      have xa : a.getD m.length 0 < 1000000000 := by rw [Nm.part a ha]; exact Nat.mod_lt _ (by decide)
      have xb : b.getD m.length 0 < 1000000000 := by rw [Nm.part b hb]; exact Nat.mod_lt _ (by decide)
      have en : IntKind.u64.wrap (IntKind.u64.wrap (IntKind.u64.wrap ((a.getD m.length 0 : Nat) + 1000000000) - (b.getD m.length 0 : Nat)) - c) = ((a.getD m.length 0 + 1000000000 - b.getD m.length 0 - c : Nat) : Int) := by
        rw [u64w (x := ((a.getD m.length 0 : Nat) : Int) + 1000000000) (by omega) (by omega), u64w (x := ((a.getD m.length 0 : Nat) : Int) + 1000000000 - (b.getD m.length 0 : Nat)) (by omega) (by omega), u64w (by omega) (by omega)]; omega
      have hix : (a.map uD)[(m.length : Int).toNat * 1]? = some (uD (a.getD m.length 0)) := ixm (j := m.length) (by simp [hlt']) (by simp)
      ((conv => whnf); repeat ((first | refine Wo ?_ | refine Lt (by decide) ?_ | refine Lf (by decide) ?_ | refine Cl (by decide) ?_ | refine Cr (by decide) ?_ | refine ⟨_, rfl, ?_⟩ | refine Mi rfl ?_); (conv => whnf)))
      (refine And.intro (by decide +kernel) ?_; apply Exists.intro; apply And.intro; focus ((repeat' ((conv => whnf); first | exact trivial | refine Wo ?_ | refine Lt (by decide) ?_ | refine Lf (by decide) ?_ | refine Cl (by decide) ?_ | refine Cr (by decide) ?_ | refine ⟨_, rfl, ?_⟩ | refine Mi rfl ?_ | (first | (refine Hc.flat (at_runs b m.length (by omega)) ?_ rfl ?_; (focus ((repeat ((conv => arg 1; whnf); first | exact Tels.nil | apply Tels.cons | apply Tel.aggs | apply Tel.tups | exact Tel.refl _ | exact Tel.nil1 _ | exact Tel.cap _ _ _ _)); done))) | refine ⟨_, hix, ?_⟩) | (refine And.intro ?_ ?_))); all_goals (first | ((conv => whnf); exact Wk.frc (keep := [0, 1, 4, 5, 6, 7, 8, 10, 11, 12]) (N := 36) (by (conv => whnf); first | done | exact rfl)) | (first | decide | rfl | assumption | omega | (dsimp only; omega) | (unfold maxLen; omega) | ((try dsimp only [maxLen]); simp only [List.length_append, List.length_cons, List.length_nil, List.length_map, List.length_range, List.length_set, List.length_replicate]; omega) | ((try dsimp only [maxLen]); simp only [IntKind.wrap_i64, IntKind.wrap_u64, List.length_append, List.length_cons, List.length_nil, List.length_map, List.length_range, List.length_set, List.length_replicate]; omega) | ((try dsimp only [maxLen]); simp only [List.length_append, List.length_cons, List.length_nil, List.length_map, List.length_range, List.length_set, List.length_replicate] at *; omega)))))
      ((conv => whnf); repeat ((first | refine Wo ?_ | refine Lt (by decide) ?_ | refine Lf (by decide) ?_ | refine Cl (by decide) ?_ | refine Cr (by decide) ?_ | refine ⟨_, rfl, ?_⟩ | refine Mi rfl ?_ | (refine And.intro ?_ ?_; focus (first | decide | rfl | assumption | omega | (dsimp only; omega) | (unfold maxLen; omega) | ((try dsimp only [maxLen]); simp only [List.length_append, List.length_cons, List.length_nil, List.length_map, List.length_range, List.length_set, List.length_replicate]; omega) | ((try dsimp only [maxLen]); simp only [IntKind.wrap_i64, IntKind.wrap_u64, List.length_append, List.length_cons, List.length_nil, List.length_map, List.length_range, List.length_set, List.length_replicate]; omega) | ((try dsimp only [maxLen]); simp only [List.length_append, List.length_cons, List.length_nil, List.length_map, List.length_range, List.length_set, List.length_replicate] at *; omega)))); (conv => whnf)))
      refine ih (m ++ [(a.getD m.length 0 + 1000000000 - b.getD m.length 0 - c) % 1000000000], 1 - (a.getD m.length 0 + 1000000000 - b.getD m.length 0 - c) / 1000000000) _ ⟨by simp; omega, by simp; omega, ?_, ?_, ?_⟩ ?_
      · exact pt_append hm (pt_one (Nat.mod_lt _ (by decide)))
      · dsimp only; omega
      · dsimp only
        rw [mv_snoc, List.length_append, List.length_singleton, low_stepB, low_stepB, ← Nm.part a ha, ← Nm.part b hb, Nat.pow_succ]
        generalize 1000000000 ^ m.length = B at *
        generalize a.getD m.length 0 = x at *
        generalize b.getD m.length 0 = y at *
        obtain ⟨n, hn⟩ : ∃ n, n = x + 1000000000 - y - c := ⟨_, rfl⟩
        rw [← hn]
        have h1 : B * n + B * y + B * c = B * x + B * 1000000000 := by rw [← Nat.mul_add, ← Nat.mul_add, ← Nat.mul_add, show n + y + c = x + 1000000000 by omega]
        rw [Nat.mul_comm c B] at he
        rcases Nat.lt_or_ge n 1000000000 with h2 | h2
        · rw [Nat.mod_eq_of_lt h2, Nat.div_eq_of_lt h2]
          omega
        · rw [show n % 1000000000 = n - 1000000000 by omega, show n / 1000000000 = 1 by omega, Nat.mul_sub]
          have := Nat.mul_le_mul_left B h2
          omega
      · dsimp only
        (refine Wk.pin [2] _ _ ?_ ?_ rfl rfl (by decide) rfl rfl <;> (repeat' first | exact trivial | rfl | (refine And.intro ?_ ?_)))
        · exact inE (by rw [en, tdivB, u64w (x := (((_ : Nat) / 1000000000 : Nat) : Int)) (by omega) (by omega), u64w (by omega) (by omega)]; omega)
        · exact inE (i64n (by simp) (by simp; omega))
        · exact arE (by rw [en, tmodB, List.map_append]; rfl) (by simp)
    · have hii : m.length = a.length := by simp at hlt; omega
      have hev : mv m = mv a - mv b := by
        have h1 := mv_lt a ha
        have h3 := mv_lt m hm
        rw [hii] at he h3
        rw [Nat.mod_eq_of_lt h1, Nat.mod_eq_of_lt (by omega)] at he
        by_cases h0 : c = 0
        · subst h0; omega
        · have : c = 1 := by omega
          subst this
          omega
      rw [← hev]
      ((conv => whnf); repeat ((first | refine Wo ?_ | refine Lt (by decide) ?_ | refine Lf (by decide) ?_ | refine Cl (by decide) ?_ | refine Cr (by decide) ?_ | refine ⟨_, rfl, ?_⟩ | refine Mi rfl ?_); (conv => whnf)))
      ((conv => whnf); refine Hc.inl Go.Proofs.YtjldjhlccedkbaaGreatDoor.Am.hT Go.Proofs.YtjldjhlccedkbaaGreatDoor.Am.hm Tryz.func159 rfl (by decide) ⟨[], [0, 2, 14], 21⟩ ?_; ((conv => whnf); repeat ((first | refine Wo ?_ | refine Lt (by decide) ?_ | refine Lf (by decide) ?_ | refine Cl (by decide) ?_ | refine Cr (by decide) ?_ | refine ⟨_, rfl, ?_⟩ | refine Mi rfl ?_); (conv => whnf))))
      refine loop_ind (fun k (l : List Nat) => l.length < k ∧ l.length ≤ 1000000000 ∧ Pt l ∧ mv l = mv m) (fun l => { t := pin [(0, .bs 1)], N := 21, h := hpin [none, some (.ar 154 1 l.length (l.map uD))], n := 2, lo := 1 }) (fun l h => by omega) ?_ (m.length + 1) m ⟨by omega, by omega, hm, rfl⟩ _ ?_
      · rintro k l R ih ⟨hk, hl1, hl, hv⟩
        rw [← hv]
        rcases snoc_cases l with rfl | ⟨p, x, rfl⟩
        · rw [show mg (mv []) = [] from mg_zero]
          ((conv => whnf); repeat ((first | refine Wo ?_ | refine Lt (by decide) ?_ | refine Lf (by decide) ?_ | refine Cl (by decide) ?_ | refine Cr (by decide) ?_ | refine ⟨_, rfl, ?_⟩ | refine Mi rfl ?_); (conv => whnf)))
          exact rfl
        · have e1 : IntKind.i64.wrap (((p ++ [x]).length : Nat) - 1) = p.length := i64n (by simp) (by simp at hl1; omega)
          have e2 : 0 ≤ IntKind.i64.wrap (((p ++ [x]).length : Nat) - 1) := by omega
          have e3 : IntKind.i64.wrap (((p ++ [x]).length : Nat) - 1) < ((p ++ [x]).length : Nat) := by rw [e1]; simp; omega
          have e4 : IntKind.i64.wrap (((p ++ [x]).length : Nat) - 1) ≤ ((p ++ [x]).length : Nat) := by omega
          ((conv => whnf); repeat ((first | refine Wo ?_ | refine Lt (by decide) ?_ | refine Lf (by decide) ?_ | refine Cl (by decide) ?_ | refine Cr (by decide) ?_ | refine ⟨_, rfl, ?_⟩ | refine Mi rfl ?_); (conv => whnf)))
          refine Lt (by simp) ?_
          ((conv => whnf); repeat ((first | refine Wo ?_ | refine Lt (by decide) ?_ | refine Lf (by decide) ?_ | refine Cl (by decide) ?_ | refine Cr (by decide) ?_ | refine ⟨_, rfl, ?_⟩ | refine Mi rfl ?_ | (refine And.intro ?_ ?_; focus (first | decide | rfl | assumption | omega | (dsimp only; omega) | (unfold maxLen; omega) | ((try dsimp only [maxLen]); simp only [List.length_append, List.length_cons, List.length_nil, List.length_map, List.length_range, List.length_set, List.length_replicate]; omega) | ((try dsimp only [maxLen]); simp only [IntKind.wrap_i64, IntKind.wrap_u64, List.length_append, List.length_cons, List.length_nil, List.length_map, List.length_range, List.length_set, List.length_replicate]; omega) | ((try dsimp only [maxLen]); simp only [List.length_append, List.length_cons, List.length_nil, List.length_map, List.length_range, List.length_set, List.length_replicate] at *; omega)))); (conv => whnf)))
          ((conv => whnf); refine ⟨_, ixm (j := p.length) (x := x) (by simp) (by rw [e1]; simp), ?_⟩; ((conv => whnf); repeat ((first | refine Wo ?_ | refine Lt (by decide) ?_ | refine Lf (by decide) ?_ | refine Cl (by decide) ?_ | refine Cr (by decide) ?_ | refine ⟨_, rfl, ?_⟩ | refine Mi rfl ?_); (conv => whnf))))
          ((conv => whnf); refine Lb (fun hb => ?_) (fun hb => ?_))
          · ((conv => whnf); repeat ((first | refine Wo ?_ | refine Lt (by decide) ?_ | refine Lf (by decide) ?_ | refine Cl (by decide) ?_ | refine Cr (by decide) ?_ | refine ⟨_, rfl, ?_⟩ | refine Mi rfl ?_ | (refine And.intro ?_ ?_; focus (first | decide | rfl | assumption | omega | (dsimp only; omega) | (unfold maxLen; omega) | ((try dsimp only [maxLen]); simp only [List.length_append, List.length_cons, List.length_nil, List.length_map, List.length_range, List.length_set, List.length_replicate]; omega) | ((try dsimp only [maxLen]); simp only [IntKind.wrap_i64, IntKind.wrap_u64, List.length_append, List.length_cons, List.length_nil, List.length_map, List.length_range, List.length_set, List.length_replicate]; omega) | ((try dsimp only [maxLen]); simp only [List.length_append, List.length_cons, List.length_nil, List.length_map, List.length_range, List.length_set, List.length_replicate] at *; omega)))); (conv => whnf)))
            refine ih p _ ⟨by simp at hk; omega, by simp at hl1; omega, fun y hy => hl y (by simp [hy]), ?_⟩ ?_
            · rw [← hv, mv_snoc]
              simp at hb
              simp [hb]
            · (refine Wk.pin [0, 2] _ _ ?_ ?_ rfl rfl (by decide) rfl rfl <;> (repeat' first | exact trivial | rfl | (refine And.intro ?_ ?_)))
              exact arE (by rw [e1]; simp) (by rw [e1]; simp)
          · ((conv => whnf); repeat ((first | refine Wo ?_ | refine Lt (by decide) ?_ | refine Lf (by decide) ?_ | refine Cl (by decide) ?_ | refine Cr (by decide) ?_ | refine ⟨_, rfl, ?_⟩ | refine Mi rfl ?_); (conv => whnf)))
            rw [canonM _ hl fun p' x' e => ?_]
            · exact congrArg some (congr (congrArg (Ob.ar _ 1) (by simp [uV])) (uV_D _).symm)
            · have := List.append_inj' e rfl
              simp at this hb
              omega
      · refine (Wk.mv 0 0 154 1 m.length (m.map uD) rfl (show 0 < 21 by decide) rfl).trans ?_
        (refine Wk.pin [0, 1] _ _ ?_ ?_ rfl rfl (by decide) rfl rfl <;> (repeat' first | exact trivial | rfl | (refine And.intro ?_ ?_)))
  · refine (Wk.virt 5 154 1 rfl (show 5 < 36 by decide)).trans ?_
    (refine Wk.to _ _ ?_ ?_ <;> (repeat' first | exact trivial | rfl | (refine And.intro ?_ ?_)))
theorem less_runs (a b : List Nat) (ha : Pt a) (hb : Pt b) (hla : a.length ≤ 100000) (hlb : b.length ≤ 100000) (hle : mv b ≤ mv a) : Runs Tryz.prog 157 [rU a none, rU b none] (rU (mg (mv a - mv b)) none) := by
  have := (less_runsR a b ha hb hla hlb hle).data (uV_one _)
  rw [uV_D, show (uV (mg (mv a - mv b))).length = (mg (mv a - mv b)).length by simp [uV]] at this
  exact this
theorem prod_step {m : List Nat} {V S x c i j e y n : Nat} (hij : i + j < m.length) (he : e = m.getD (i + j) 0) (hy : y = V / 1000000000 ^ j % 1000000000) (hn : n = e + x * y + c) (hv : mv m + c * 1000000000 ^ (i + j) = S + x * (V % 1000000000 ^ j) * 1000000000 ^ i) :
    mv (m.set (i + j) (n % 1000000000)) + n / 1000000000 * 1000000000 ^ (i + (j + 1)) = S + x * (V % 1000000000 ^ (j + 1)) * 1000000000 ^ i := by
  have h1 := mv_set m (i + j) (n % 1000000000) hij
  rw [← he] at h1
  have h2 := Nat.mod_add_div n 1000000000
  have h3 : n % 1000000000 * 1000000000 ^ (i + j) + n / 1000000000 * 1000000000 ^ (i + (j + 1)) = n * 1000000000 ^ (i + j) := by
    rw [← Nat.add_assoc, Nat.pow_succ, Nat.mul_comm (1000000000 ^ (i + j)) 1000000000, ← Nat.mul_assoc, ← Nat.add_mul]
    congr 1
    omega
  have h4 : x * (V % 1000000000 ^ (j + 1)) * 1000000000 ^ i = x * (V % 1000000000 ^ j) * 1000000000 ^ i + x * y * 1000000000 ^ (i + j) := by
    rw [low_stepB, ← hy, Nat.mul_add, Nat.add_mul, Nat.pow_add, Nat.mul_comm (1000000000 ^ j) y, ← Nat.mul_assoc x y, Nat.mul_assoc (x * y), Nat.mul_comm (1000000000 ^ j) (1000000000 ^ i)]
  have h5 : n * 1000000000 ^ (i + j) = e * 1000000000 ^ (i + j) + x * y * 1000000000 ^ (i + j) + c * 1000000000 ^ (i + j) := by rw [hn, Nat.add_mul, Nat.add_mul]
  rw [h4]
  generalize 1000000000 ^ (i + (j + 1)) = P1 at *
  generalize e * 1000000000 ^ (i + j) = q1 at *
  generalize x * y * 1000000000 ^ (i + j) = q2 at *
  generalize c * 1000000000 ^ (i + j) = q3 at *
  generalize n % 1000000000 * 1000000000 ^ (i + j) = q4 at *
  generalize n * 1000000000 ^ (i + j) = q5 at *
  generalize x * (V % 1000000000 ^ j) * 1000000000 ^ i = q6 at *
  generalize n / 1000000000 * P1 = q7 at *
  omega
theorem putC {m : List Nat} {o v : Nat} (h : o < m.length) : putCells (m.map uD) o [uD v] = (m.set o v).map uD := by
  rw [List.map_set]
  unfold putCells
  rw [List.set_eq_take_append_cons_drop, if_pos (by simpa using h)]
  simp
end Go.Proofs.YtjldjhlccedkbaaGreatDoor.Am
end
