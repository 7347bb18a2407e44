/- WidthOrder: widths go on to Big, each wider than the one ahead; the greatest one of two lists is the greater one of both. Conditions: none but the statement's own. -/
import Derived.Test.YtdbheoffkfmcpaaDoorWidthA
import Derived.Test.YtdbheoffkfmcpaaDoorLOrder1
namespace Go.Proofs.YtdbheoffkfmcpaaDoor.Pure
open Go.RowKit Go.Proofs.YtdbheoffkfmcpaaDoor.LS Go.Proofs.YtdbheoffkfmcpaaDoor.LOrder Go.Proofs.YtdbheoffkfmcpaaDoorW.PrintWords Go.Proofs.YtdbheoffkfmcpaaDoorW.PrintLast Go.Proofs.YtdbheoffkfmcpaaDoor Go.Proofs.YtdbheoffkfmcpaaDoor.Nm
set_option linter.unusedVariables false
set_option linter.unusedSimpArgs false

theorem foldl_max_base (l : List Int) : ∀ a b : Int, l.foldl max (max a b) = max a (l.foldl max b) := by
  induction l with
  | nil => intro a b; rfl
  | cons x r ih =>
    intro a b
    rw [List.foldl_cons, List.foldl_cons, Int.max_assoc, ih]
theorem maxL_append (l m : List Int) (hl : l ≠ []) (hm : m ≠ []) : maxL (l ++ m) = mx (maxL l) (maxL m) := by
  unfold maxL
  rw [if_neg hl, if_neg hm, if_neg (by simp [hl])]
  cases l with
  | nil => exact absurd rfl hl
  | cons x r =>
    cases m with
    | nil => exact absurd rfl hm
    | cons y t =>
      have hmx : ∀ p q : Int, mx p q = max p q := fun p q => by unfold mx; rw [Int.max_def]; split <;> split <;> omega
      rw [hmx]
      simp only [List.cons_append, List.headD_cons, List.foldl_cons, List.foldl_append, Int.max_self]
      rw [foldl_max_base]
theorem next_wide (w : Int) : Hd.nextW w = 128 ∨ Hd.nextW w > w := by
  unfold Hd.nextW
  by_cases h8 : w = 8
  · rw [if_pos h8]; omega
  rw [if_neg h8]
  by_cases h16 : w = 16
  · rw [if_pos h16]; omega
  rw [if_neg h16]
  by_cases h32 : w = 32
  · rw [if_pos h32]; omega
  rw [if_neg h32]
  exact .inl rfl
theorem WidthOrder : reredoslaw02_WidthOrder.Pure := by
  intro w l m hw hl1 hl2 hlw hm1 hm2 hmw
  refine Ev.rounds ?_
  unfold reredoslaw02_WidthOrder.f
  refine Ev.bind shownW ?_
  have hskip : ∀ t, t = true → Ev (fun k => reredoslaw02_WidthOrder.j0 k w l m true t) true := fun t ht => by
    subst ht
    refine Ev.step (f := fun _ => some true) (fun k => ?_) (Ev.now _)
    simp only [reredoslaw02_WidthOrder.j0]
    rw [if_pos trivial, if_pos trivial, widthMax_ev]
    rfl
  by_cases h1 : (l.length : Int) > 100
  · simp only [h1, if_true]
    exact hskip _ rfl
  simp only [h1, if_false]
  by_cases h2 : (m.length : Int) > 100
  · simp only [h2, if_true]
    exact hskip _ rfl
  simp only [h2, if_false]
  by_cases h3 : (l.length : Int) = 0
  · simp only [h3, if_true]
    exact hskip _ rfl
  simp only [h3, if_false]
  by_cases h4 : (m.length : Int) = 0
  · exact hskip _ (beq_iff_eq.mpr h4)
  rw [show ((m.length : Int) == 0) = false from beq_eq_false_iff_ne.mpr h4]
  have hl : l ≠ [] := fun e => h3 (by rw [e]; rfl)
  have hm : m ≠ [] := fun e => h4 (by rw [e]; rfl)
  have fin : ((LS.width_Max.f (l ++ m)).bind fun t151 => ((LS.width_Max.f l).bind fun t152 => ((LS.width_Max.f m).bind fun t153 => (some (t151 == (mx t152 t153)))))) = some true := by
    rw [widthMax_ev, widthMax_ev, widthMax_ev]
    simp only [Option.bind_some]
    rw [maxL_append l m hl hm, beq_self_eq_true]
  have hn : Hd.widthNext.f 128 = some 128 := by decide
  refine Ev.step (f := fun _ => some true) (fun k => ?_) (Ev.now _)
  simp only [reredoslaw02_WidthOrder.j0]
  rw [show Hd.widthNext.f w = some (Hd.nextW w) from rfl]
  simp only [Bool.false_eq_true, if_false, Option.bind_some, List.length_nil, List.nil_append, hn, if_true]
  rw [if_pos (by omega), if_pos (by omega)]
  by_cases h5 : Hd.nextW w = 128
  · rw [if_pos h5]
    exact fin
  · rw [if_neg h5, if_pos ((next_wide w).resolve_left h5)]
    exact fin

end Go.Proofs.YtdbheoffkfmcpaaDoor.Pure
