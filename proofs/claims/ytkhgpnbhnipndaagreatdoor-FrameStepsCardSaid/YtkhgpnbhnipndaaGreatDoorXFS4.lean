/- What the law leans on, part 5: declarations of several texts of ours, in their order. -/
import Derived.Test.YtkhgpnbhnipndaaGreatDoorRows
import Derived.Test.YtkhgpnbhnipndaaGreatDoorXFS3
import Derived.Stop.LaidErr
import Derived.LaidHandle
import Derived.LaidMore
import Derived.LaidLaws
import Derived.Lib.LaidTab
import Derived.HandedShaped
import Derived.Shelf.Vars
import Derived.Lay
section
/- From what the rows list of the package-level variables to GL, and a world that meets it. -/
namespace Go.Proofs.YtkhgpnbhnipndaaGreatDoor.Hd
open Go.RowKit Go.Proofs.YtkhgpnbhnipndaaGreatDoorW.PrintWords Go.Proofs.YtkhgpnbhnipndaaGreatDoorW.PrintLast Go.Proofs.YtkhgpnbhnipndaaGreatDoorW.PrintMore Go.Proofs.YtkhgpnbhnipndaaGreatDoor.B Go.Lib Go.WideShapes Go.Shelf
set_option linter.unusedVariables false
set_option linter.unusedSimpArgs false
theorem pow10_data : (Rows.laid_internal_strconv_uint64pow10 : DataW Unit) = tabData .u64 pow10Tab := by kernel_rfl
theorem row_es (u : TypeId) (h : Tryz.prog.typeName? 3 u = some "*errors.errorString") : u = 272 :=
  typeName_ptr_named (nm := "errors.errorString") (by rw [show "*" ++ "errors.errorString" = "*errors.errorString" from by decide]; kernel_rfl) (by kernel_rfl) (by decide) u (by rw [show "*" ++ "errors.errorString" = "*errors.errorString" from by decide]; exact h)
theorem maxLen_some {W : World} (h : W.ShapedOpen Tryz.prog) : ∃ m : Int, W.cell? ⟨0, 0, none⟩ = some (.int .i64 m) :=
  cell_of_shapedOpen_int (t := 3) (zero := #[.int .i64 0]) h (of_decide_eq_true (by kernel_rfl)) (by kernel_rfl) rfl (by kernel_rfl) (by kernel_rfl) Tryz.underlying3
/-- the wrap of a row whose variables are laid, and whose world has its shape -/
theorem handed_laid {H : Type} {enc : TypeId × Value → H} {a : Assume} {C : Checked} {os : Os} {f : FuncId} {fn : Func} {s : ChangeSpec} {conds : List PathCond} {apart fresh handsOn again : Bool} {X : World → Array Value → Prop}
    (hX : ∀ (w w' : World) (args : Array Value), w.heap = w'.heap → X w args → X w' args) (own : ownKnob C.prog.godebug = none) (started : os.Started) (noInit : C.prog.inits.idxOf? f = none) (hfn : C.prog.funcs[f]? = some fn)
    (witness : ∃ (w : World) (tape : Tape) (i : Input), w.os = os ∧ (w.forCall tape i).Shaped C.prog ∧ i.vars = [] ∧ Input.okWide C.prog (w.forCall tape i) .any w.heap.size f i ∧
      ((s.pre enc C.prog fn conds apart (w.forCall tape i).memory i.args ∧ X (w.forCall tape i).memory i.args) ∧ sizedMet enc C.prog fn (OpenSpec.ofChange s) apart (w.forCall tape i).memory i.args) ∧ a.holds C.prog (lone (Frame.enter C.prog f i.args .normal) [] (w.forCall tape i)))
    (contract : ∀ (W : World) (base : Nat) (args : Array Value) (ds gs : List (DataW H)) (before : List MemPlace), (∀ (j : Nat) t v, fn.params[j]? = some t → args[j]? = some v → Value.okWide C.prog W .any base t v) → DataW.Whole enc C.prog fn.params.toList s.vars apart W args.toList ds gs before →
      conds.all (PathCond.test C.prog ⟨fn.params.toList, ds, s.plain.varTypes C.prog, gs⟩) = true → (DataW.weightsEach C.prog (fn.params.toList ++ s.plain.varTypes C.prog) (ds ++ gs)).all (· ≤ reachBytes) = true → X W args ∧ W.ShapedOpen C.prog →
      a.holds C.prog (lone (Frame.enter C.prog f args .normal) [] W) → Calls C.prog f args W fun e W' => ∃ v, e = .returned v ∧ s.post enc C.prog fn apart fresh handsOn again W args v W') :
    ReturnsInHanded a C os f .any (fun w args => (s.pre enc C.prog fn conds apart w args ∧ X w args) ∧ sizedMet enc C.prog fn (OpenSpec.ofChange s) apart w args) (s.post enc C.prog fn apart fresh handsOn again) := by
  refine returnsInHanded_of_calls own started noInit witness fun w tape i _ hshape _ hin hpre hh => ?_
  obtain ⟨_, _, _, fn2, hf2, _, _, _, _, hv⟩ := hin
  obtain rfl : fn2 = fn := by rw [hfn] at hf2; exact (Option.some.inj hf2).symm
  obtain ⟨⟨⟨ds, gs, before, hwh, hcond⟩, hx⟩, hsz⟩ := hpre
  refine (contract (w.forCall tape i) w.heap.size i.args ds gs before hv (DataW.Whole.of_heap (w' := w.forCall tape i) (by rfl) hwh) hcond (hsz.weights hwh) ⟨hX _ _ _ (by rfl) hx, hshape⟩ hh).mono ?_
  rintro e W' ⟨v, rfl, hp⟩
  exact ChangeSpec.post_blind hp
abbrev laidList : List (String × DataW Unit) := [("math/bits.deBruijn32tab", Rows.laid_math_bits_deBruijn32tab), ("math/bits.deBruijn64tab", Rows.laid_math_bits_deBruijn64tab), ("internal/strconv.uint64pow10", Rows.laid_internal_strconv_uint64pow10), ("strconv.ErrRange", Rows.laid_strconv_ErrRange), ("strconv.ErrSyntax", Rows.laid_strconv_ErrSyntax)]
theorem gl_of_laid {W : World} (h : laidMetH Tryz.prog laidList W ∧ W.ShapedOpen Tryz.prog) : GL W := by
  obtain ⟨h, hsh⟩ := h
  rw [MakeChecks.laidMetH_plain _ _ _ (by kernel_rfl)] at h
  have h2 : laidMet Tryz.prog (("internal/strconv.uint64pow10", tabData .u64 pow10Tab) :: [("strconv.ErrRange", Rows.laid_strconv_ErrRange), ("strconv.ErrSyntax", Rows.laid_strconv_ErrSyntax)]) W := by
    rw [← pow10_data]
    exact h.tail.tail
  obtain ⟨a1, _, e1, _⟩ := laid_sentinel (h2.tail) (g := 3) (by kernel_rfl) (by kernel_rfl) Tryz.underlying184 row_es Tryz.underlying272 Tryz.underlying274 rfl rfl Tryz.underlying9 (by kernel_rfl) (by kernel_rfl)
  obtain ⟨a2, _, e2, _⟩ := laid_sentinel (h2.tail.tail) (g := 2) (by kernel_rfl) (by kernel_rfl) Tryz.underlying184 row_es Tryz.underlying272 Tryz.underlying274 rfl rfl Tryz.underlying9 (by kernel_rfl) (by kernel_rfl)
  exact ⟨tabIs_of_head (g := 1) (by kernel_rfl) (by kernel_rfl) Tryz.underlying248 Tryz.underlying205 (by kernel_rfl) (by kernel_rfl) h2, ⟨_, _, e2⟩, ⟨_, _, e1⟩, maxLen_some hsh⟩
set_option maxRecDepth 100000 in
theorem door_met (os : Os) (args : Array Value) : laidMetH Tryz.prog laidList ((World.laidAll Tryz.prog os laidList).forCall (fun _ _ => 0) ⟨#[], args, []⟩).memory :=
  by rw [MakeChecks.laidMetH_plain _ _ _ (by kernel_rfl)]; exact laidMet_laidAll _ (by kernel_rfl) (by kernel_rfl)
end Go.Proofs.YtkhgpnbhnipndaaGreatDoor.Hd
end
