/- What the law leans on, part 2: declarations of several texts of ours, in their order. -/
import Derived.Test.YtjldjhlccedkbaaGreatDoorXS0
section
/- Small words of this session's own: how a printed walk takes its tests, binds and calls. -/
set_option linter.unusedVariables false
set_option linter.unusedSimpArgs false
namespace Go.Proofs.YtjldjhlccedkbaaGreatDoorW.PrintLast
open Go Go.RowKit Go.Proofs.YtjldjhlccedkbaaGreatDoorW.PrintWords
theorem bnd {α β : Type} {x : Option α} {f : α → Option β} {r : β} {G : Prop} (h : x.bind f = some r) (k : ∀ a, Aside0 (x = some a) → f a = some r → G) : G := by
  obtain ⟨a, h1, h2⟩ := Option.bind_eq_some_iff.mp h
  exact k a ⟨h1⟩ h2
theorem kB {W W1 W2 : World} {g : Nat} {o : Obj} (h : Aside0 (W.heap[g]? = some o)) (hb : Below W1.heap.size W1 W2) (hw : W.heap[g]? = some o → W1.heap[g]? = some o := by intro h_; (with_reducible repeat (first | refine blk_drewN ?_ _ | refine blk_drew ?_ | refine blk_alloc ?_ _)); exact h_) : Aside0 (W2.heap[g]? = some o) := ⟨blk_below (hw h.out) hb⟩
end Go.Proofs.YtjldjhlccedkbaaGreatDoorW.PrintLast
end
