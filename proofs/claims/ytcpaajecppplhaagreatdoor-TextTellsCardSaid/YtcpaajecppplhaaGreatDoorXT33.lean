/- What the law leans on, part 34: declarations of several texts of ours, in their order. -/
import Derived.Lib.Split
import Derived.Lib.SplitLaws
import Derived.Lib.Join
import Derived.Lib.IndexBytes
import Derived.Lib.IndexLaws
import Derived.Lib.IndexMore
section
/- Texts told apart at a letter, and put together again: what strings.Split, Join and Cut tell, plainly. No program in sight. -/
namespace Go.Proofs.YtcpaajecppplhaaGreatDoor.Tx
open Go.Lib
set_option linter.unusedVariables false
set_option linter.unusedSimpArgs false
/-- the pieces of a text between the letters c -/
def spl (c : UInt8) : List UInt8 → List (List UInt8)
  | [] => [[]]
  | b :: l => if b = c then [] :: spl c l else match spl c l with | [] => [[b]] | x :: r => (b :: x) :: r
theorem spl_ne (c : UInt8) (l : List UInt8) : spl c l ≠ [] := by
  cases l with
  | nil => simp [spl]
  | cons b l =>
    unfold spl
    split
    · simp
    · split <;> simp
theorem spl_free (c : UInt8) : ∀ l : List UInt8, c ∉ l → spl c l = [l]
  | [], _ => rfl
  | b :: l, h => by
    simp only [List.mem_cons, not_or] at h
    unfold spl
    rw [if_neg (fun e => h.1 e.symm), spl_free c l h.2]
theorem spl_app (c : UInt8) : ∀ (x l : List UInt8), c ∉ x → spl c (x ++ c :: l) = x :: spl c l
  | [], l, _ => by simp [spl]
  | b :: x, l, h => by
    simp only [List.mem_cons, not_or] at h
    rw [List.cons_append]
    conv => lhs; unfold spl
    rw [if_neg (fun e => h.1 e.symm), spl_app c x l h.2]
/-- the letters on, put together -/
def jn (c : UInt8) : List (List UInt8) → List UInt8
  | [] => []
  | [x] => x
  | x :: y :: r => x ++ c :: jn c (y :: r)
theorem jn_cons (c : UInt8) (x : List UInt8) {r : List (List UInt8)} (h : r ≠ []) : jn c (x :: r) = x ++ c :: jn c r := by
  cases r with
  | nil => exact absurd rfl h
  | cons y r => rfl
theorem jn_spl (c : UInt8) : ∀ l : List UInt8, jn c (spl c l) = l
  | [] => rfl
  | b :: l => by
    have ih := jn_spl c l
    have hn := spl_ne c l
    unfold spl
    split
    · rename_i h
      rw [jn_cons c _ hn, ih, h]
      rfl
    · split
      · rename_i h; exact absurd h hn
      · rename_i x r h
        rw [h] at ih
        cases r with
        | nil =>
          simp only [jn] at ih ⊢
          rw [ih]
        | cons y r =>
          rw [jn_cons c _ (by simp)] at ih ⊢
          rw [List.cons_append, ih]
theorem spl_jn (c : UInt8) : ∀ (xs : List (List UInt8)), xs ≠ [] → (∀ x ∈ xs, c ∉ x) → spl c (jn c xs) = xs
  | [], h, _ => absurd rfl h
  | [x], _, h => spl_free c x (h x (by simp))
  | x :: y :: r, _, h => by
    rw [jn_cons c x (by simp), spl_app c x _ (h x (by simp)), spl_jn c (y :: r) (by simp) (fun z hz => h z (by simp [hz]))]
theorem join_jn (c : UInt8) : ∀ xs : List (List UInt8), join xs [c] = jn c xs
  | [] => rfl
  | [x] => join_one x [c]
  | x :: y :: r => by
    rw [jn_cons c x (by simp), ← join_jn c (y :: r), join_cons, join_cons]
    simp [joinTail]
/-- the first letter c splits a text -/
theorem index_split (l : List UInt8) (c : UInt8) : (index l [c] = -1 ∧ c ∉ l) ∨ ∃ x r, l = x ++ c :: r ∧ c ∉ x ∧ index l [c] = (x.length : Int) := by
  induction l with
  | nil => exact .inl ⟨rfl, by simp⟩
  | cons b l ih =>
    by_cases hb : b = c
    · subst hb
      refine .inr ⟨[], l, rfl, by simp, ?_⟩
      rw [index_one]
      simp [indexByte]
    · have e : index (b :: l) [c] = if index l [c] == -1 then -1 else index l [c] + 1 := by
        rw [index_one, index_one]
        conv => lhs; unfold indexByte
        rw [if_neg (by simpa using hb)]
      rcases ih with ⟨h1, h2⟩ | ⟨x, r, h1, h2, h3⟩
      · exact .inl ⟨by rw [e, h1]; rfl, by simp only [List.mem_cons, not_or]; exact ⟨fun h => hb h.symm, h2⟩⟩
      · refine .inr ⟨b :: x, r, by rw [h1]; rfl, by simp only [List.mem_cons, not_or]; exact ⟨fun h => hb h.symm, h2⟩, ?_⟩
        rw [e, h3, if_neg (by simp)]
        simp
theorem count_free (c : UInt8) (l : List UInt8) (h : c ∉ l) : l.count c = 0 := List.count_eq_zero.mpr h
theorem splitK_spl (c : UInt8) : ∀ (k : Nat) (l : List UInt8), l.count c = k → splitK [c] 0 k l = spl c l
  | 0, l, h => by
    have hn : c ∉ l := List.count_eq_zero.mp h
    rw [spl_free c l hn]
    rfl
  | k + 1, l, h => by
    rcases index_split l c with ⟨h1, h2⟩ | ⟨x, r, rfl, h2, h3⟩
    · rw [count_free c l h2] at h; cases h
    · have hc : r.count c = k := by
        rw [List.count_append, count_free c x h2, List.count_cons_self] at h
        omega
      unfold splitK
      rw [h3, if_neg (by simp), spl_app c x r h2, ← splitK_spl c k r hc]
      congr 1
      · simp
      · congr 1
        rw [Int.toNat_natCast, show [c].length = 1 from rfl, show x ++ c :: r = (x ++ [c]) ++ r by simp]
        rw [List.drop_append_of_le_length (by simp), show x.length + 1 = (x ++ [c]).length by simp, List.drop_length]
        rfl
/-- strings.Split at one letter -/
theorem split_spl (s : ByteArray) (c : UInt8) : (splitB ⟨#[c]⟩ 0 (countB s ⟨#[c]⟩) s).map (·.data.toList) = spl c s.data.toList := by
  rw [splitB_data]
  exact splitK_spl c _ _ (by rw [show countB s ⟨#[c]⟩ = count s.data.toList [c] from rfl, count_one])
/-- strings.Cut at one letter -/
theorem cut_spl (l : List UInt8) (c : UInt8) : (cut l [c] = (l, [], false) ∧ c ∉ l) ∨ ∃ x r, l = x ++ c :: r ∧ c ∉ x ∧ cut l [c] = (x, r, true) := by
  rcases index_split l c with ⟨h1, h2⟩ | ⟨x, r, rfl, h2, h3⟩
  · exact .inl ⟨by unfold cut; rw [h1, if_neg (by decide)], h2⟩
  · refine .inr ⟨x, r, rfl, h2, ?_⟩
    unfold cut
    rw [h3, if_pos (by omega), Int.toNat_natCast]
    have e1 : (x ++ c :: r).take x.length = x := by simp
    have e2 : (x ++ c :: r).drop (x.length + [c].length) = r := by
      rw [show x ++ c :: r = (x ++ [c]) ++ r by simp, show x.length + [c].length = (x ++ [c]).length by simp]
      exact List.drop_left
    rw [e1, e2]
end Go.Proofs.YtcpaajecppplhaaGreatDoor.Tx
end
