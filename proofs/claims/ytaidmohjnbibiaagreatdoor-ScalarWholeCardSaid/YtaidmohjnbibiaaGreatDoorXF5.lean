/- What the law leans on, part 6: declarations of several texts of ours, in their order. -/
import Derived.Test.YtaidmohjnbibiaaGreatDoorRows
import Derived.Test.YtaidmohjnbibiaaGreatDoorXF4
import Derived.Stop.LaidErr
import Derived.LaidHandle
import Derived.LaidMore
import Derived.LaidLaws
import Derived.Lib.LaidTab
section
/- From what the rows list of the package-level variables to GL, and a world that meets it. -/
namespace Go.Proofs.YtaidmohjnbibiaaGreatDoor.Hd
open Go.RowKit Go.Proofs.YtaidmohjnbibiaaGreatDoorW.PrintWords Go.Proofs.YtaidmohjnbibiaaGreatDoorW.PrintLast Go.Proofs.YtaidmohjnbibiaaGreatDoorW.PrintMore Go.Proofs.YtaidmohjnbibiaaGreatDoor.B Go.Lib
set_option linter.unusedVariables false
set_option linter.unusedSimpArgs false
abbrev laidList : List (String × DataW Unit) := [("math/bits.deBruijn32tab", Rows.laid_math_bits_deBruijn32tab), ("math/bits.deBruijn64tab", Rows.laid_math_bits_deBruijn64tab), ("internal/strconv.uint64pow10", Rows.laid_internal_strconv_uint64pow10), ("strconv.ErrRange", Rows.laid_strconv_ErrRange), ("strconv.ErrSyntax", Rows.laid_strconv_ErrSyntax)]
theorem pow10_data : (Rows.laid_internal_strconv_uint64pow10 : DataW Unit) = tabData .u64 pow10Tab := by kernel_rfl
theorem row_es (u : TypeId) (h : Tryz.prog.typeName? 3 u = some "*errors.errorString") : u = 133 :=
  typeName_ptr_named (nm := "errors.errorString") (by rw [show "*" ++ "errors.errorString" = "*errors.errorString" from by decide]; kernel_rfl) (by kernel_rfl) (by decide) u (by rw [show "*" ++ "errors.errorString" = "*errors.errorString" from by decide]; exact h)
theorem gl_of_laid {W : World} (h : laidMetH Tryz.prog laidList W) : GL W := by
  rw [MakeChecks.laidMetH_plain _ _ _ (by kernel_rfl)] at h
  have h2 : laidMet Tryz.prog (("internal/strconv.uint64pow10", tabData .u64 pow10Tab) :: [("strconv.ErrRange", Rows.laid_strconv_ErrRange), ("strconv.ErrSyntax", Rows.laid_strconv_ErrSyntax)]) W := by
    rw [← pow10_data]
    exact h.tail.tail
  have h3 := h2.tail
  have h4 := h3.tail
  obtain ⟨a1, _, e1, _⟩ := laid_sentinel h3 (g := 2) (by kernel_rfl) (by kernel_rfl) Tryz.underlying63 row_es Tryz.underlying133 Tryz.underlying135 rfl rfl Tryz.underlying9 (by kernel_rfl) (by kernel_rfl)
  obtain ⟨a2, _, e2, _⟩ := laid_sentinel h4 (g := 1) (by kernel_rfl) (by kernel_rfl) Tryz.underlying63 row_es Tryz.underlying133 Tryz.underlying135 rfl rfl Tryz.underlying9 (by kernel_rfl) (by kernel_rfl)
  exact ⟨tabIs_of_head (g := 3) (by kernel_rfl) (by kernel_rfl) Tryz.underlying129 Tryz.underlying61 (by kernel_rfl) (by kernel_rfl) h2, ⟨_, _, e2⟩, ⟨_, _, e1⟩⟩
set_option maxRecDepth 100000 in
theorem door_met (os : Os) (args : Array Value) : laidMetH Tryz.prog laidList ((World.doorLaid Tryz.prog 400 os).forCall (fun _ _ => 0) ⟨#[], args, []⟩).memory :=
  laidMetH_of_parts3 (fuel := 8) (laidMet_of_run' 8 (by kernel_rfl) (by kernel_rfl)) (by kernel_rfl) (by kernel_rfl)
end Go.Proofs.YtaidmohjnbibiaaGreatDoor.Hd
end
