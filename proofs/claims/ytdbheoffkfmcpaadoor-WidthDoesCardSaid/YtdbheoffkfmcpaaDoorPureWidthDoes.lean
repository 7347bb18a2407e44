/- WidthDoes: what two numbers are, together, less each other, and multiplied, in any width, or that they go over, is the document's. Conditions: none but the statement's own. -/
import Derived.Test.YtdbheoffkfmcpaaDoorWidthA
import Derived.Test.YtdbheoffkfmcpaaDoorLDoes1
namespace Go.Proofs.YtdbheoffkfmcpaaDoor.Pure
open Go.RowKit Go.Proofs.YtdbheoffkfmcpaaDoor.LS Go.Proofs.YtdbheoffkfmcpaaDoor.LDoes Go.Proofs.YtdbheoffkfmcpaaDoorW.PrintWords Go.Proofs.YtdbheoffkfmcpaaDoorW.PrintLast Go.Proofs.YtdbheoffkfmcpaaDoor Go.Proofs.YtdbheoffkfmcpaaDoor.Nm
set_option linter.unusedVariables false
set_option linter.unusedSimpArgs false

theorem WidthDoes : reredoslaw02_WidthDoes.Pure := by
  intro a b w ha hb hw
  have h1 : i64P a := i64_of ha
  have h2 : i64P b := i64_of hb
  have d1 := do_ev 1 a b w h1 h2
  rw [if_pos rfl] at d1
  have d2 := do_ev 2 a b w h1 h2
  rw [if_neg (by decide), if_pos rfl] at d2
  have d3 := do_ev 3 a b w h1 h2
  rw [if_neg (by decide), if_neg (by decide)] at d3
  refine Ev.rounds ?_
  unfold reredoslaw02_WidthDoes.f
  refine Ev.bind shownW ?_
  refine Ev.bind (wadd_ev a b w h1 h2) ?_
  refine Ev.bind d1 ?_
  refine Ev.bind (wsub_ev a b w h1 h2) ?_
  refine Ev.bind d2 ?_
  refine Ev.bind (wmul_ev a b w h1 h2) ?_
  refine Ev.bind d3 ?_
  simp only [if_true, beq_self_eq_true]
  exact Ev.now _

end Go.Proofs.YtdbheoffkfmcpaaDoor.Pure
