/- What the law leans on, part 3: declarations of several texts of ours, in their order. -/
import Derived.Test.YtcpaajecppplhaaGreatDoorXN1
section
/- Small words of this session's own: how a printed walk takes its tests, binds and calls. -/
set_option linter.unusedVariables false
set_option linter.unusedSimpArgs false
namespace Go.Proofs.YtcpaajecppplhaaGreatDoorW.PrintLast
open Go Go.RowKit Go.Proofs.YtcpaajecppplhaaGreatDoorW.PrintWords
/-- where the walk stops -/
structure Halt (p : Prop) : Prop where
  out : p
theorem halt {p : Prop} (h : Halt p) : p := h.out
theorem bnd {α β : Type} {x : Option α} {f : α → Option β} {r : β} {G : Prop} (h : x.bind f = some r) (k : ∀ a, Aside0 (x = some a) → f a = some r → G) : G := by
  obtain ⟨a, h1, h2⟩ := Option.bind_eq_some_iff.mp h
  exact k a ⟨h1⟩ h2
theorem bnd2 {α γ β : Type} {x : Option (α × γ)} {f : α × γ → Option β} {r : β} {G : Prop} (h : x.bind f = some r) (k : ∀ a b, Aside0 (x = some (a, b)) → f (a, b) = some r → G) : G := by
  obtain ⟨⟨a, b⟩, h1, h2⟩ := Option.bind_eq_some_iff.mp h
  exact k a b ⟨h1⟩ h2
theorem iteB {α : Type} {b : Bool} {x y : Option α} {r : α} {G : Prop} (h : (if b = true then x else y) = some r) (k1 : b = true → x = some r → G) (k2 : b = false → y = some r → G) : G := by
  cases b with
  | true => exact k1 rfl ((if_pos rfl).symm.trans h)
  | false => exact k2 rfl ((if_neg Bool.false_ne_true).symm.trans h)
theorem iteE {α : Type} {p : Prop} [Decidable p] {x y : Option α} {r : α} {G : Prop} (h : (if p then x else y) = some r) (k1 : p → x = some r → G) (k2 : ¬ p → y = some r → G) : G := by
  by_cases hp : p
  · exact k1 hp ((if_pos hp).symm.trans h)
  · exact k2 hp ((if_neg hp).symm.trans h)
section
variable {P : Program} {ops : Array Oper} {Q : Exit → Act → World → Prop} {rest : List Oper} {oi : Oper} {a : Act} {w : World}
/-- a call in a plain region, by its contract -/
theorem goesC {f : FuncId} {fn : Func} {xa : Array Operand} {ts : Array TypeId} {args : Array Value} {post : Ending → World → Prop} (hf : P.funcs[f]? = some fn) (N : Option Tmp) (hc : Calls P f args w post)
    (k : ∀ e w', post e w' → ∃ v, e = .returned v ∧ wpList P ops Q rest (a.put N v) w')
    (hop : oi.op = .call { callee := .value (.func f), args := xa, argTypes := ts } := by rfl) (hd : oi.dst = N := by rfl) (hg : oi.guard = none := by rfl) (hname : (fn.name == "runtime.NumGoroutine") = false := by kernel_rfl) (hb : fn.body.isSome = true := by rfl)
    (hargs : xa.map a.eval = args := by (try simp only [List.map_toArray, List.map_cons, List.map_nil]); first | done | rfl | (simp only [List.length_drop, List.length_take]; rfl)) : wpList P ops Q (oi :: rest) a w :=
  goesL_ N hd hg hf hname hb args hop hargs (hc.mono k)
/-- .. that tells a value and makes memory at most -/
theorem goesB (w0 : World) {f : FuncId} {fn : Func} {xa : Array Operand} {ts : Array TypeId} {args : Array Value} {X : Value} (hf : P.funcs[f]? = some fn) (N : Option Tmp) (hc : Calls P f args w fun e w' => e = .returned X ∧ Below w.heap.size w w')
    (hB : Below w0.heap.size w0 w) (k : ∀ w', Aside0 (Below w0.heap.size w0 w') → wpList P ops Q rest (a.put N X) w')
    (hop : oi.op = .call { callee := .value (.func f), args := xa, argTypes := ts } := by rfl) (hd : oi.dst = N := by rfl) (hg : oi.guard = none := by rfl) (hname : (fn.name == "runtime.NumGoroutine") = false := by kernel_rfl) (hb : fn.body.isSome = true := by rfl)
    (hargs : xa.map a.eval = args := by (try simp only [List.map_toArray, List.map_cons, List.map_nil]); first | done | rfl | (simp only [List.length_drop, List.length_take]; rfl)) : wpList P ops Q (oi :: rest) a w :=
  goesL_ N hd hg hf hname hb args hop hargs (hc.mono fun e w' h => ⟨X, h.1, k w' ⟨below_step hB h.2⟩⟩)
end
section
variable {α : Type} {d : Kd α} {e : TypeId} {W W1 W2 : World} {b : Nat} {ok : Nat → Prop} {v : Value} {xs : List α}
/-- what is told of a row, a block, the world, behind a step that keeps what is elder -/
theorem kR (h : Aside0 (Kd.R d e W b ok v xs)) (hb : Below W1.heap.size W1 W2) (hw : Kd.R d e W b ok v xs → Kd.R d e W1 b ok v xs := by intro h_; (with_reducible repeat (first | apply Kd.R_alloc | apply Kd.R_drewN | apply Kd.R_drew)); exact h_) : Aside0 (Kd.R d e W2 b ok v xs) := ⟨Kd.R_below (hw h.out) hb⟩
theorem kV (h : Aside0 (Kd.V d e W b ok v xs)) (hb : Below W1.heap.size W1 W2) (hw : Kd.V d e W b ok v xs → Kd.V d e W1 b ok v xs := by intro h_; (with_reducible repeat (first | apply Kd.V_alloc | apply Kd.V_drewN | apply Kd.V_drew)); exact h_) : Aside0 (Kd.V d e W2 b ok v xs) := ⟨Kd.V_below (hw h.out) hb⟩
end
theorem kB {W W1 W2 : World} {g : Nat} {o : Obj} (h : Aside0 (W.heap[g]? = some o)) (hb : Below W1.heap.size W1 W2) (hw : W.heap[g]? = some o → W1.heap[g]? = some o := by intro h_; (with_reducible repeat (first | refine blk_drewN ?_ _ | refine blk_drew ?_ | refine blk_alloc ?_ _)); exact h_) : Aside0 (W2.heap[g]? = some o) := ⟨blk_below (hw h.out) hb⟩
theorem kS {u : Nat} {w W W1 W2 : World} (h : Aside0 (Below u w W)) (hb : Below W1.heap.size W1 W2) (hw : Below u w W → Below u w W1 := by intro h_; repeat (first | (with_reducible first | exact h_ | apply below_alloc | apply pw_below_drewN | apply below_drew1 | refine below_set ?_ (Aside0.out (by assumption))) | exact h_)) (hu : u = w.heap.size := by rfl) : Aside0 (Below u w W2) := by
  subst hu
  exact ⟨below_step (hw h.out) hb⟩
end Go.Proofs.YtcpaajecppplhaaGreatDoorW.PrintLast
end
