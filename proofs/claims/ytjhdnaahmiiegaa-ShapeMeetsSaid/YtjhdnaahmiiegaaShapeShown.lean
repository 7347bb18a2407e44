/- The example at the head of the statements about shapes holds, whatever the rounds, from some number on. -/
import Derived.Test.YtjhdnaahmiiegaaShapeS
import Derived.Test.YtjhdnaahmiiegaaL1
namespace Go.Proofs.Ytjhdnaahmiiegaa.Sh
open Go.RowKit Go.Proofs.YtjhdnaahmiiegaaW.PrintWords Go.Proofs.YtjhdnaahmiiegaaW.PrintLast Go.Proofs.Ytjhdnaahmiiegaa
theorem shown_ev : Ev (fun k => L.reredoslaw03_shown.f k) true := Ev.of L.reredoslaw03_shown.mono (k := 10) (by kernel_rfl)
theorem items_nil : K.shape_Items.f [] = some (1, []) := rfl
theorem items_cons (a : Int) (l : List Int) (h : l.length < 17592186044416) : K.shape_Items.f (a :: l) = some (a, l) := by
  unfold K.shape_Items.f
  rw [if_neg (by simp only [List.length_cons]; omega), if_pos (by simp only [List.length_cons]; omega), if_pos (by simp only [List.length_cons]; omega)]
  simp [Hd.slices_Clone.f, h, rd]
theorem mx_eq (a b : Int) : mx a b = if a < b then b else a := rfl
end Go.Proofs.Ytjhdnaahmiiegaa.Sh
