/- What the law leans on, part 11: declarations of several texts of ours, in their order. -/
import Derived.Test.YtkhgpnbhnipndaaGreatDoorXFS9
import Derived.RangeFuncLeaves
import Derived.RangeFuncRecord
section
/-! Functions: contracts over data, calls in place, and what may be told otherwise. -/
namespace Go.Proofs.YtkhgpnbhnipndaaGreatDoor.Am
open Go Go.RowKit
set_option linter.unusedVariables false
set_option linter.unusedSimpArgs false
section
variable {n₀ : Nat} {w₀ w w' : World} {S₀ S S' : Nat → Prop} {σ σ' : Sg} {h : Hp} {n k : Nat} {fr : List Fr} {P : Program} {T : Tab} {F : Fence} {o : Oper} {s : St} {a : Act} {K : St → Prop} {rd : Bool} {pl : Plans}
/-- a contract over data: what the function tells of what it is given -/
def Runs (P : Program) (p : FuncId) (args : List D) (r : D) : Prop :=
  Pl P p ∧ ∀ (w : World) (S : Nat → Prop) (vs : List Value), GLw w → (∀ g, S g → g < w.heap.size) → vs.length = args.length → (∀ (i : Nat) x u, args[i]? = some x → vs[i]? = some u → Dr w S x u) →
    Calls P p vs.toArray w fun e w' => ∃ v, e = .returned v ∧ Below w.heap.size w w' ∧ Dr w' (fun g => S g ∨ (w.heap.size ≤ g ∧ g < w'.heap.size)) r v
theorem HR.glw (H : HR n₀ w₀ S₀ S σ h n fr w) : GLw w := H.gl.below (H.le0 ▸ H.old)
/-- a call that makes memory of its own -/
theorem HR.called (H : HR n₀ w₀ S₀ S σ h n fr w) (hb : Below w.heap.size w w') : HR n₀ w₀ S₀ (fun g => S g ∨ (w.heap.size ≤ g ∧ g < w'.heap.size)) σ h n fr w' := by
  have hs : ∀ g, S g → w'.heap[g]? = w.heap[g]? := fun g hg => hb.block g (H.sS g hg)
  have hsz := H.size
  refine H.to (hb.mono hsz) hs (fun g hg => .inl hg) (fun _ _ h => h) (fun g hg => hg.elim (fun h => Nat.lt_of_lt_of_le (H.sS g h) hb.size) (·.2)) (fun g hg hlt => hg.elim (fun h => H.s0 g h hlt) (fun h => by omega)) ?_ H.sep ?_ H.fresh (fun d _ d2 d3 d4 => by
    have hlt := (Array.getElem?_eq_some_iff.1 d2).1
    exact ⟨hb.block d hlt, fun h => h.elim d3 (fun h => by omega), d4⟩)
  · exact fun b o hb' => (H.bx b o hb').mono hs (fun g hg => .inl hg) (fun _ _ h => h) (fun hl u g hu hg => hb.block g (H.row_lt hb' hl hu hg).2)
  · rintro b o hb' hl u g hu hg (hS | hS)
    · exact H.un b o hb' hl u g hu hg hS
    · have := (H.row_lt hb' hl hu hg).2; omega
theorem Hc.of_runs {p : FuncId} {args : List V} {ds : List D} {r : D} {Q : V → Hp → Nat → Prop} (hr : Runs P p ds r) (hd : dat.dats h args = ds) (hq : Q r.toV (frz.frzs h args) n) : Hc P p args h n Q := by
  refine ⟨hr.1, fun n₀ w₀ S₀ S σ fr w vs H _ hlen hv => ?_⟩
  obtain ⟨g1, S', g2, g3, g4⟩ := frzs_ok args vs h S H hlen hv
  rw [hd] at g4
  refine (hr.2 w S' vs H.glw g2.sS (by rw [hlen, ← hd, dats_len]) g4).mono ?_
  rintro e w' ⟨v, rfl, hb, hx⟩
  exact ⟨_, _, _, _, σ, v, rfl, hq, g2.called hb, toV_ok hx, Nat.le_refl _⟩
/-- what holds no rows -/
def D.im : D → Bool
  | .v _ => true
  | _ => false
def D.flat : D → Bool
  | .v _ => true
  | .agg l => l.all D.im
  | .tup l => l.all fun | .v _ => true | .agg k => k.all D.im | _ => false
  | _ => false
theorem im_ok {x : D} (hi : x.im = true) {v : Value} (hx : Dr w S x v) : Dr w S' x v := by
  cases hx with
  | v => exact .v _
  | _ => cases hi
theorem flat_ok {x : D} (hi : x.flat = true) {v : Value} (hx : Dr w S x v) : Dr w S' x v := by
  have agg : ∀ {l : List D} {v : Value}, l.all D.im = true → Dr w S (.agg l) v → Dr w S' (.agg l) v := by
    intro l v hl hx
    cases hx with
    | agg vs h1 h0 h2 => exact .agg vs h1 h0 fun i x u hx hu => im_ok (List.all_eq_true.1 hl x (List.mem_of_getElem? hx)) (h2 i x u hx hu)
  cases hx with
  | v => exact .v _
  | agg vs h1 h0 h2 => exact agg hi (.agg vs h1 h0 h2)
  | tup vs h1 h2 =>
    refine .tup vs h1 fun i x u hx hu => ?_
    have hm := List.all_eq_true.1 hi x (List.mem_of_getElem? hx)
    have hy := h2 i x u hx hu
    cases x with
    | v x => cases hy; exact .v _
    | agg k => exact agg hm hy
    | _ => cases hm
  | _ => cases hi
/-- what is read now, in whatever memory there is -/
theorem dat_now (H : HR n₀ w₀ S₀ S σ h n fr w) (l : List V) (vs : List Value) (hv : ∀ (i : Nat) x u, l[i]? = some x → vs[i]? = some u → Vr w S σ x u) (hlen : vs.length = l.length) :
    ∃ S', (∀ g, S' g → g < w.heap.size) ∧ ∀ (i : Nat) x u, (dat.dats h l)[i]? = some x → vs[i]? = some u → Dr w S' x u := by
  obtain ⟨g1, S', g2, g3, g4⟩ := frzs_ok l vs h S H hlen hv
  exact ⟨S', g2.sS, g4⟩
theorem kp_below (hb : Below w.heap.size w w') : Kp none w w' := fun g _ _ _ hg _ => hb.block g (Array.getElem?_eq_some_iff.1 hg).1
theorem HcB.of_runs {p : FuncId} {args : List V} {ds : List D} {r : D} {Q : V → Hp → Nat → Prop} (hr : Runs P p ds r) (hd : dat.dats h args = ds) (hq : Q r.toV (frz.frzs h args) n) : HcB P p args h n Q := by
  refine ⟨hr.1, fun n₀ w₀ S₀ S σ fr w vs H _ hlen hv => ?_⟩
  obtain ⟨g1, S', g2, g3, g4⟩ := frzs_ok args vs h S H hlen hv
  rw [hd] at g4
  refine (hr.2 w S' vs H.glw g2.sS (by rw [hlen, ← hd, dats_len]) g4).mono ?_
  rintro e w' ⟨v, rfl, hb, hx⟩
  exact ⟨_, _, _, _, σ, v, rfl, hq, g2.called hb, toV_ok hx, Nat.le_refl _, kp_below hb⟩
theorem Hc.of_flat {p : FuncId} {args : List V} {ds : List D} {r : D} {Q : V → Hp → Nat → Prop} (hr : Runs P p ds r) (hd : dat.dats h args = ds) (hf : r.flat = true) (hq : Q r.toV h n) : Hc P p args h n Q := by
  refine ⟨hr.1, fun n₀ w₀ S₀ S σ fr w vs H _ hlen hv => ?_⟩
  obtain ⟨S', g1, g2⟩ := dat_now H args vs hv hlen
  rw [hd] at g2
  refine (hr.2 w S' vs H.glw g1 (by rw [hlen, ← hd, dats_len]) g2).mono ?_
  rintro e w' ⟨v, rfl, hb, hx⟩
  exact ⟨_, _, _, _, σ, v, rfl, hq, H.called hb, toV_ok (flat_ok hf hx), Nat.le_refl _⟩
theorem HcB.of_flat {p : FuncId} {args : List V} {ds : List D} {r : D} {Q : V → Hp → Nat → Prop} (hr : Runs P p ds r) (hd : dat.dats h args = ds) (hf : r.flat = true) (hq : Q r.toV h n)   : HcB P p args h n Q := by
  refine ⟨hr.1, fun n₀ w₀ S₀ S σ fr w vs H _ hlen hv => ?_⟩
  obtain ⟨S', g1, g2⟩ := dat_now H args vs hv hlen
  rw [hd] at g2
  refine (hr.2 w S' vs H.glw g1 (by rw [hlen, ← hd, dats_len]) g2).mono ?_
  rintro e w' ⟨v, rfl, hb, hx⟩
  exact ⟨_, _, _, _, σ, v, rfl, hq, H.called hb, toV_ok (flat_ok hf hx), Nat.le_refl _, kp_below hb⟩
/-- a function's results, out of its temporaries -/
def resV (T : Tab) : List ResultVar → St → (List V → Prop) → Prop
  | [], _, K => K []
  | .tmp t :: l, s, K => resV T l s fun vs => K (s.t t :: vs)
  | .cell a t :: l, s, K => loadP T t (s.t a) s.h fun v => resV T l s fun vs => K (v :: vs)
def one : List V → V
  | [x] => x
  | l => .tup l
def rdR (tmps : Array Value) : ResultVar → Sem Value
  | .tmp t => pure (tmps.getD t undef)
  | .cell a t => do loadVar t (← asAddr (tmps.getD a undef))
theorem results_eq (fn : Func) (tmps : Array Value) : results fn tmps = (do let vs ← fn.results.mapM (rdR tmps); pure (if h : vs.size = 1 then vs[0] else .tuple vs)) := by
  unfold results
  congr 1
theorem resV_ok (hT : TOk P T) {tm : Array Value} {ds : List Nat} (H : HR n₀ w₀ S₀ S σ s.h s.n (⟨s.t, tm, none, ds⟩ :: fr) w) : ∀ (l : List ResultVar) (K : List V → Prop), resV T l s K →
    ∃ vs xs, (l.mapM (rdR tm)).run P w = .ok vs w ∧ Al (Vr w S σ) xs vs ∧ K xs
  | [], K, hk => ⟨[], [], by simp, .nil, hk⟩
  | .tmp t :: l, K, hk => by
    obtain ⟨vs, xs, h1, h2, h3⟩ := resV_ok hT H l _ hk
    exact ⟨_, _, by rw [List.mapM_cons]; simp only [Sem.run_bind, rdR, Sem.run_pure, Result.andThen_ok, h1], .cons (H.fr _ List.mem_cons_self t) h2, h3⟩
  | .cell ad t :: l, K, hk => by
    obtain ⟨v, y, e1, e2, e3, ad', e4⟩ := loadP_val hT H (H.fr _ List.mem_cons_self ad) hk
    obtain ⟨vs, xs, h1, h2, h3⟩ := resV_ok hT H l _ e3
    refine ⟨_, _, ?_, .cons e2 h2, h3⟩
    have e4' : tm.getD ad undef = .pointer (some ad') := e4
    have e1' : (loadVar t ad').run P w = .ok v w := by
      have := e1
      simp only [e4'] at this
      simpa [Instr.loadAt, Instr.sureAddr] using this
    rw [List.mapM_cons]
    have e5 : (rdR tm (.cell ad t)).run P w = .ok v w := by
      simp only [rdR, e4', asAddr, Sem.run_bind, Sem.run_pure, Result.andThen_ok, e1']
    simp only [Sem.run_bind, e5, Sem.run_pure, Result.andThen_ok, h1]
theorem results_ok (hT : TOk P T) {tm : Array Value} {ds : List Nat} (H : HR n₀ w₀ S₀ S σ s.h s.n (⟨s.t, tm, none, ds⟩ :: fr) w) {fn : Func} {K : V → Prop} (hk : resV T fn.results.toList s fun vs => K (one vs)) : ∃ v x, (results fn tm).run P w = .ok v w ∧ Vr w S σ x v ∧ K x := by
  obtain ⟨vs, xs, h1, h2, h3⟩ := resV_ok hT H _ _ hk
  refine ⟨if h : vs.length = 1 then vs[0] else .tuple vs.toArray, _, ?_, ?_, h3⟩
  · rw [results_eq]
    simp only [Array.mapM_eq_mapM_toList, Sem.run_bind, Sem.run_map, h1, Result.andThen_ok, Sem.run_pure]
    simp
  · split
    · rename_i hl
      obtain ⟨x, rfl⟩ : ∃ x, xs = [x] := by
        rw [h2.len] at hl
        cases xs with
        | nil => simp at hl
        | cons x xs =>
          cases xs with
          | nil => exact ⟨x, rfl⟩
          | cons y ys => simp at hl
      exact h2.at_ 0 x _ rfl (List.getElem?_eq_getElem _)
    · rename_i hl
      have e : one xs = .tup xs := by
        cases xs with
        | nil => rfl
        | cons x xs =>
          cases xs with
          | nil => exact absurd h2.len hl
          | cons y ys => rfl
      rw [e]
      exact .tup vs h2.len h2.at_
/-- a frame at its start -/
def St.enter (args : List V) (ntmps : Nat) (h : Hp) (n : Nat) : St :=
  { t := fun i => match args[i]? with | some x => x | none => .imm undef, N := args.length + (ntmps - args.length), h, n, lo := n }
theorem enter_ok (H : HR n₀ w₀ S₀ S σ h n fr w) (hl : ∀ p, p ∈ fr → ∃ l, p.lo = some l ∧ l ≤ n) {args : List V} {vs : List Value} (hlen : vs.length = args.length) (hv : ∀ (i : Nat) x u, args[i]? = some x → vs[i]? = some u → Vr w S σ x u) (m : Nat) :
    SR n₀ w₀ S₀ S σ (St.enter args m h n) fr { tmps := vs.toArray ++ Array.replicate (m - vs.toArray.size) undef, defers := [] } w := by
  refine ⟨⟨H.old, H.le0, H.gl, H.s0, H.sS, H.bx, fun p hp i => ?_, H.sep, H.un, ?_, by simpa [dsOf] using H.nd, H.fresh⟩, hl, Nat.le_refl _, by simp [St.enter, hlen], fun d hd => by simp at hd⟩
  case refine_2 =>
    intro p hp d hd
    rcases List.mem_cons.1 hp with rfl | hp
    · simp [dsOf] at hd
    · exact H.ds p hp d hd
  rcases List.mem_cons.1 hp with rfl | hp
  · simp only [St.enter, res]
    cases e : args[i]? with
    | some x =>
      have hi : i < vs.length := by rw [hlen]; exact (List.getElem?_eq_some_iff.1 e).1
      have : (vs.toArray ++ Array.replicate (m - vs.toArray.size) undef).getD i undef = vs[i] := by
        simp [Array.getElem?_append, hi]
      simp only [this]
      exact hv i x _ e (List.getElem?_eq_getElem hi)
    | none =>
      have hi : vs.length ≤ i := by rw [hlen]; exact List.getElem?_eq_none_iff.1 e
      have : (vs.toArray ++ Array.replicate (m - vs.toArray.size) undef).getD i undef = undef := by
        simp only [Array.getD_eq_getD_getElem?, Array.getElem?_append, List.size_toArray, Array.getElem?_replicate]
        rw [if_neg (by omega)]
        split <;> rfl
      simp only [this]
      exact .d (.v undef)
  · exact H.fr p hp i
/-- what a function's body comes to -/
def retQ (T : Tab) (fn : Func) (lo : Nat) (Q : V → Hp → Nat → Prop) (e : Exit) (s : St) : Prop :=
  match e with
  | .normal | .ret => chk (Nat.beq s.lo lo) (resV T fn.results.toList s fun vs => Q (one vs) s.h s.n)
  | _ => False
/-- a block of deferred calls is taken -/
theorem HR.unmark {t : Nat → V} {v : Array Value} {l : Option Nat} {d : Nat} {ds : List Nat} (H : HR n₀ w₀ S₀ S σ h n (⟨t, v, l, d :: ds⟩ :: fr) w) : HR n₀ w₀ S₀ S σ h n (⟨t, v, l, ds⟩ :: fr) (w.putObj d (.deferred none)) := by
  obtain ⟨d1, d2, d3, d4⟩ := H.ds _ List.mem_cons_self d List.mem_cons_self
  have ho : ∀ k, k ≠ d → (w.putObj d (.deferred none)).heap[k]? = w.heap[k]? := fun k hk => World.putObj_heap_other hk
  have hs : ∀ g, S g → (w.putObj d (.deferred none)).heap[g]? = w.heap[g]? := fun g hg => ho g fun e => by subst e; exact d3 hg
  have hnd : (d :: (ds ++ (fr.map Fr.ds).flatten)).Nodup := by simpa using H.nd
  rw [List.nodup_cons] at hnd
  have hds : ∀ p : Fr, p ∈ (⟨t, v, l, ds⟩ :: fr : List Fr) → ∀ e, e ∈ p.ds → e ≠ d := by
    intro p hp e he hed
    subst hed
    apply hnd.1
    rcases List.mem_cons.1 hp with rfl | hp
    · exact List.mem_append_left _ he
    · exact List.mem_append_right _ (List.mem_flatten.2 ⟨p.ds, List.mem_map_of_mem hp, he⟩)
  have hold : ∀ p : Fr, p ∈ (⟨t, v, l, ds⟩ :: fr : List Fr) → ∃ q : Fr, q ∈ (⟨t, v, l, d :: ds⟩ :: fr : List Fr) ∧ q.t = p.t ∧ q.v = p.v ∧ q.lo = p.lo ∧ ∀ e, e ∈ p.ds → e ∈ q.ds := by
    intro p hp
    rcases List.mem_cons.1 hp with rfl | hp
    · exact ⟨_, List.mem_cons_self, rfl, rfl, rfl, fun e he => List.mem_cons_of_mem _ he⟩
    · exact ⟨p, List.mem_cons_of_mem _ hp, rfl, rfl, rfl, fun e he => he⟩
  refine ⟨H.old.trans ⟨rfl, rfl, rfl, by simp, fun k hk => ho k (by omega)⟩, H.le0, H.gl, H.s0, fun g hg => by simpa using H.sS g hg, ?_, ?_, H.sep, H.un, ?_, by simpa using hnd.2, H.fresh⟩
  · exact fun b o hb => (H.bx b o hb).mono hs (fun _ h => h) (fun _ _ h => h) (fun hl u g hu hg => ho g fun e => d4 b o u hb hl hu (by rw [hg, e]))
  · intro p hp i
    obtain ⟨q, hq, e1, e2, e3, _⟩ := hold p hp
    have := H.fr q hq i
    rw [e1, e2, e3] at this
    exact this.mono hs (fun _ h => h) (fun _ _ h => h)
  · intro p hp e he
    obtain ⟨q, hq, _, _, _, e4⟩ := hold p hp
    obtain ⟨f1, f2, f3, f4⟩ := H.ds q hq e (e4 e he)
    exact ⟨f1, (ho e (hds p hp e he)).trans f2, f3, f4⟩
theorem marks_ok {fn : Func} {R : Ending → World → Prop} {t : Nat → V} {tm : Array Value} : ∀ (ds : List Deferred) (w : World), (∀ d, d ∈ ds → ∃ r, d = ⟨.collected r, #[]⟩) → HR n₀ w₀ S₀ S σ h n (⟨t, tm, none, dsOf ds⟩ :: fr) w →
    (∀ w', HR n₀ w₀ S₀ S σ h n (⟨t, tm, none, []⟩ :: fr) w' → ∃ v, (results fn tm).run P w' = .ok v w' ∧ R (.returned v) w') → LeavesInM Fence.wide 0 P fn tm R ds .returning w
  | [], w, _, H, hR => hR w H
  | d :: ds, w, hd, H, hR => by
    obtain ⟨r, rfl⟩ := hd d List.mem_cons_self
    have H' : HR n₀ w₀ S₀ S σ h n (⟨t, tm, none, r :: dsOf ds⟩ :: fr) w := H
    exact ⟨by simp, .inl ⟨r, _, rfl, run_takeDeferred (H'.ds _ List.mem_cons_self r List.mem_cons_self).2.1, marks_ok ds _ (fun d h => hd d (List.mem_cons_of_mem _ h)) H'.unmark hR⟩⟩
theorem body_ok (hT : TOk P T) (hm : P.follows .mixedOrders = true) {p : FuncId} {fn : Func} {c : Code} (hf : P.funcs[p]? = some fn) (hb : fn.body = some c) {args : List V} {Q : V → Hp → Nat → Prop}
    (hp : wpP P T false pl c (St.enter args fn.ntmps h n) (retQ T fn n Q)) (H : HR n₀ w₀ S₀ S σ h n fr w) (hl : ∀ p, p ∈ fr → ∃ l, p.lo = some l ∧ l ≤ n) {vs : List Value} (hlen : vs.length = args.length) (hv : ∀ (i : Nat) x u, args[i]? = some x → vs[i]? = some u → Vr w S σ x u) :
    Calls P p vs.toArray w fun e w' => ∃ r h' n' S' σ' v, e = .returned v ∧ Q r h' n' ∧ HR n₀ w₀ S₀ S' σ' h' n' fr w' ∧ Vr w' S' σ' r v ∧ n ≤ n' := by
  refine callsIn_wide.1 (callsIn_of_wp_marks (n := 0) hf hb trivial (wpIn_mono (code_ok (F := Fence.wide) (k := 0) hT (.inl rfl) hm (fun _ => rfl) c _ _ S σ _ w hp (enter_ok H hl hlen hv fn.ntmps)) ?_))
  rintro e a' w' ⟨⟨s', S', σ', hq, H'⟩, he⟩
  have fin : chk (Nat.beq s'.lo n) (resV T fn.results.toList s' fun vs => Q (one vs) s'.h s'.n) → LeavesInM Fence.wide 0 P fn a'.tmps (fun e w' => ∃ r h' n' S' σ' v, e = .returned v ∧ Q r h' n' ∧ HR n₀ w₀ S₀ S' σ' h' n' fr w' ∧ Vr w' S' σ' r v ∧ n ≤ n') a'.defers .returning w' := by
    intro hq
    replace hq := chk_iff.1 hq
    obtain ⟨hlo, hq⟩ := hq
    have hlo := Nat.eq_of_beq_eq_true hlo
    refine marks_ok _ w' H'.d H'.h fun w2 H2 => ?_
    obtain ⟨v, x, h1, h2, h3⟩ := results_ok hT (s := s') H2 (K := fun x => Q x s'.h s'.n) hq
    refine ⟨v, h1, x, s'.h, s'.n, S', σ', v, rfl, h3, ⟨H2.old, H2.le0, H2.gl, H2.s0, H2.sS, H2.bx, fun p hp => H2.fr p (List.mem_cons_of_mem _ hp), H2.sep, H2.un, fun p hp => H2.ds p (List.mem_cons_of_mem _ hp), by simpa using H2.nd, H2.fresh⟩, h2, by have := H'.lon; omega⟩
  cases e with
  | normal => exact fin hq
  | ret => exact fin hq
  | panic c => exact he.elim
  | outgrown => exact he.elim
  | exit i => exact hq.elim
  | goto l => exact hq.elim
/-- a call, walked in place -/
theorem Hc.inl (hT : TOk P T) (hm : P.follows .mixedOrders = true) {p : FuncId} {fn : Func} {c : Code} (hf : P.funcs[p]? = some fn) (hb : fn.body = some c) (hname : fn.name ≠ "runtime.NumGoroutine") {args : List V} {Q : V → Hp → Nat → Prop} (pl : Plans)
    (hp : wpP P T false pl c (St.enter args fn.ntmps h n) (retQ T fn n Q)) : Hc P p args h n Q :=
  ⟨⟨fn, hf, by rw [hb]; rfl, hname⟩, fun _ _ _ _ _ _ _ _ H hl hlen hv => body_ok hT hm hf hb hp H hl hlen hv⟩
/-- a contract, out of the body -/
theorem Runs.of_wp (hT : TOk P T) (hm : P.follows .mixedOrders = true) {p : FuncId} {fn : Func} {c : Code} (hf : P.funcs[p]? = some fn) (hb : fn.body = some c) (hname : fn.name ≠ "runtime.NumGoroutine") {args : List D} {r : D} (pl : Plans)
    (hp : wpP P T false pl c (St.enter (args.map D.toV) fn.ntmps (fun _ => none) 0) (retQ T fn 0 (fun x h _ => dat h x = r))) : Runs P p args r := by
  refine ⟨⟨fn, hf, by rw [hb]; rfl, hname⟩, fun w S vs hg hS hlen hv => ?_⟩
  have H : HR w.heap.size w S S (fun _ => none) (fun _ => none) 0 [] w :=
    ⟨Below.refl _ _, rfl, hg, fun _ h _ => h, hS, (fun _ _ h => by cases h), (fun _ h => by cases h), (fun _ _ _ _ h => by cases h), (fun _ _ h => by cases h), (fun _ h => by cases h), by simp, fun _ _ => ⟨rfl, rfl⟩⟩
  refine (body_ok hT hm hf hb hp H (fun _ h => by cases h) (vs := vs) (by simpa using hlen) (fun i x u hx hu => ?_)).mono ?_
  · rw [List.getElem?_map] at hx
    cases e : args[i]? with
    | none => rw [e] at hx; cases hx
    | some y => rw [e] at hx; cases hx; exact toV_ok (hv i y u e hu)
  · rintro e w' ⟨x, h', n', S', σ', v, rfl, hq, H', hx, _⟩
    obtain ⟨g1, S2, g2, g3, g4⟩ := frz_ok x v h' S' H' hx
    refine ⟨v, rfl, H'.old, ?_⟩
    rw [hq] at g4
    refine g4.mono (fun _ _ => rfl) fun g hg => ?_
    by_cases hlt : g < w.heap.size
    · exact .inl (g2.s0 g hg hlt)
    · exact .inr ⟨by omega, g2.sS g hg⟩
end
end Go.Proofs.YtkhgpnbhnipndaaGreatDoor.Am
end
section
/-! Rounds; loops; what may be told otherwise. -/
namespace Go.Proofs.YtkhgpnbhnipndaaGreatDoor.Am
open Go Go.RowKit
set_option linter.unusedVariables false
set_option linter.unusedSimpArgs false
section
variable {n₀ : Nat} {w₀ w w' : World} {S₀ S S' : Nat → Prop} {σ σ' : Sg} {h : Hp} {n k : Nat} {fr : List Fr} {P : Program} {T : Tab} {F : Fence} {o : Oper} {s : St} {a : Act} {K : St → Prop} {rd : Bool} {pl : Plans}
def puts : List Tmp → List V → St → St
  | p :: ps, x :: xs, s => puts ps xs (s.put (some p) x)
  | _, _, s => s
def bgn (P : Program) (T : Tab) (pl : Plans) (bd : Code) (b : Nat) (Q : Exit → St → Prop) (e : Exit) (s : St) : Prop :=
  match e with
  | .normal => match s.h b with
    | some (.lp .ready none t N ps asg bd') => wpP P T true pl bd { s with h := upd s.h b (.lp .busy none t N ps asg bd') } Q
    | _ => False
  | _ => False
/-- a round's end -/
def rndF (b lo : Nat) (Q : V → Hp → Nat → Prop) (s : St) (st : LoopState) (pend : Option Code) (v : Bool) : Prop :=
  match s.h b with
  | some (.lp _ _ t N ps asg bd) => chk (Nat.beq s.lo lo) (Q (.imm (.bool v)) (upd s.h b (.lp st pend t N ps asg bd)) s.n)
  | _ => False
def rndQ (b lo : Nat) (Q : V → Hp → Nat → Prop) (e : Exit) (s : St) : Prop :=
  match e with
  | .normal => rndF b lo Q s .ready none true
  | .ret => rndF b lo Q s .done (some .ret) false
  | .exit i => rndF b lo Q s .done (some (.exit i)) false
  | .goto i => rndF b lo Q s .done (some (.goto i)) false
  | _ => False
theorem SR.put' (H : SR n₀ w₀ S₀ S σ s fr a w) {x : V} {v : Value} (hx : Vr w S σ x v) (dst : Option Tmp) : SR n₀ w₀ S₀ S σ (s.put dst x) fr (a.put dst v) w := by
  refine ⟨?_, by rw [put_lo]; exact H.lo, by rw [put_lo, (put_hn _ _ _).2]; exact H.lon, by rw [put_size, put_N]; exact H.N, by rw [put_def]; exact H.d⟩
  rw [(put_hn _ _ _).1, (put_hn _ _ _).2]
  exact put_fr H.h H.N hx dst s.h s.n
theorem puts_ok : ∀ (ps : List Tmp) (xs : List V) (vs : List Value) (s : St) (a : Act), SR n₀ w₀ S₀ S σ s fr a w → vs.length = xs.length → (∀ (i : Nat) x u, xs[i]? = some x → vs[i]? = some u → Vr w S σ x u) →
    SR n₀ w₀ S₀ S σ (puts ps xs s) fr { a with tmps := (ps.zip vs).foldl (fun tmps (t, v) => tmps.setIfInBounds t v) a.tmps } w
  | [], xs, vs, s, a, H, _, _ => by simpa [puts] using H
  | p :: ps, [], vs, s, a, H, hl, _ => by
    have : vs = [] := List.eq_nil_of_length_eq_zero (by simpa using hl)
    subst this
    simpa [puts] using H
  | p :: ps, x :: xs, [], s, a, H, hl, _ => by simp at hl
  | p :: ps, x :: xs, v :: vs, s, a, H, hl, hv => puts_ok ps xs vs _ (a.put (some p) v) (H.put' (hv 0 x v rfl rfl) (some p)) (by simpa using hl) (fun i y u hy hu => hv (i + 1) y u (by simpa using hy) (by simpa using hu))
theorem HR.wrLp (H : HR n₀ w₀ S₀ S σ h n fr w) {b l : Nat} {st : LoopState} {pend : Option Code} {t : Nat → V} {N : Nat} {ps : Array Tmp} {asg bd : Code} (hb : h b = some (.lp st pend t N ps asg bd)) (hσ : σ b = some (.pointer (some ⟨l, 0, none⟩))) (st' : LoopState) (pend' : Option Code) :
    ∃ r : Loop, w.heap[l]? = some (.loop r) ∧ r.state = st ∧ r.pending = pend ∧ r.params = ps ∧ r.assign = asg ∧ r.body = bd ∧ r.tmps.size = N ∧ (∀ i, Vr w S σ (t i) (r.tmps.getD i undef)) ∧
      HR n₀ w₀ S₀ S σ (upd h b (.lp st' pend' t N ps asg bd)) n fr (w.putObj l (.loop { r with state := st', pending := pend' })) := by
  obtain ⟨l', r, g1, g2, g3, ⟨e1, e2, e3, e4, e5, e6⟩, g5⟩ := H.bx b _ hb
  rw [hσ] at g1
  cases g1
  refine ⟨r, g3, e1, e2, e3, e4, e5, e6, fun i => (g5 i).mono (fun _ _ => rfl) (fun _ h => h) (fun b u hb => by
    simp only [res] at hb
    split at hb
    · exact hb
    · cases hb), ?_⟩
  have hlt := (Array.getElem?_eq_some_iff.1 g3).1
  have hun := H.un b _ hb rfl _ l hσ rfl
  refine H.wrg (w' := w.putObj l (.loop { r with state := st', pending := pend' })) (g := l) hb rfl hσ rfl ⟨rfl, rfl, rfl, by simp, fun k _ hk => World.putObj_heap_other (fun e => hk (by rw [e]))⟩ fun b1 p1 h1 => (upd_eq h1).imp ?_ id
  rintro ⟨rfl, rfl⟩
  exact ⟨rfl, l, _, hσ, g2, World.putObj_heap_same hlt, ⟨rfl, rfl, e3, e4, e5, e6⟩, fun i => (g5 i).mono (fun g hg => World.putObj_heap_other (fun e => by subst e; exact hun hg)) (fun _ h => h) (fun _ _ h => h)⟩
theorem HR.drop {p : Fr} (H : HR n₀ w₀ S₀ S σ h n (p :: fr) w) : HR n₀ w₀ S₀ S σ h n fr w := by
  have hnd := H.nd
  simp only [List.map_cons, List.flatten_cons] at hnd
  exact ⟨H.old, H.le0, H.gl, H.s0, H.sS, H.bx, fun p hp => H.fr p (List.mem_cons_of_mem _ hp), H.sep, H.un, fun p hp => H.ds p (List.mem_cons_of_mem _ hp), (List.nodup_append.1 hnd).2.1, H.fresh⟩
theorem HR.push (H : HR n₀ w₀ S₀ S σ h n fr w) {t : Nat → V} {v : Array Value} {lo : Option Nat} (hv : ∀ i, Vr w S (res σ lo) (t i) (v.getD i undef)) : HR n₀ w₀ S₀ S σ h n (⟨t, v, lo, []⟩ :: fr) w := by
  refine ⟨H.old, H.le0, H.gl, H.s0, H.sS, H.bx, fun p hp => ?_, H.sep, H.un, fun p hp d hd => ?_, by simpa using H.nd, H.fresh⟩
  · rcases List.mem_cons.1 hp with rfl | hp
    · exact hv
    · exact H.fr p hp
  · rcases List.mem_cons.1 hp with rfl | hp
    · simp at hd
    · exact H.ds p hp d hd
theorem Yc.of_wp (hT : TOk P T) (hm : P.follows .mixedOrders = true) {b : Nat} {args : List V} {Q : V → Hp → Nat → Prop} {t : Nat → V} {N : Nat} {ps : Array Tmp} {asg bd : Code} (pl : Plans) (hb : h b = some (.lp .ready none t N ps asg bd)) (hlen : args.length = ps.size)
    (hp : wpP P T true pl asg (puts ps.toList args { t, N, h, n, lo := n }) (bgn P T pl bd b (rndQ b n Q))) : Yc P b args h n Q := by
  refine ⟨fun n₀ w₀ S₀ S σ fr w vs l H hl hvl hv hσ => ?_⟩
  obtain ⟨r, g1, g2, g3, g4, g5, g6, g7, g8, _⟩ := H.wrLp hb hσ .ready none
  refine ⟨r, g1, by rw [hvl, hlen, g4], roundIn_of_wpIn trivial ?_⟩
  have hbn : b < n := by
    rcases Nat.lt_or_ge b n with h' | h'
    · exact h'
    · rw [(H.fresh b h').1] at hb; cases hb
  have tie : ∀ {S' : Nat → Prop} {σ' : Sg} {h' : Hp} {n' : Nat} {w' : World} {p : Fr} , HR n₀ w₀ S₀ S' σ' h' n' (p :: ⟨fun i => if i = 0 then .yl b else .d .no, #[.func (.yield l) #[] #[]], some n, []⟩ :: fr) w' → σ' b = some (.pointer (some ⟨l, 0, none⟩)) := by
    intro S' σ' h' n' w' p H'
    have hy := H'.fr _ (List.mem_cons_of_mem _ List.mem_cons_self) 0
    simp only [if_true] at hy
    have hv0 : (#[Value.func (.yield l) #[] #[]] : Array Value).getD 0 undef = .func (.yield l) #[] #[] := rfl
    rw [hv0] at hy
    cases hy with
    | yl hy =>
      simp only [res, if_pos hbn] at hy
      exact hy
  have H1 : HR n₀ w₀ S₀ S σ h n (⟨fun i => if i = 0 then .yl b else .d .no, #[.func (.yield l) #[] #[]], some n, []⟩ :: fr) w := H.push fun i => by
    by_cases hi : i = 0
    · subst hi
      exact .yl (by simp only [res, if_pos hbn]; exact hσ)
    · simp only [hi, if_false]
      exact .d (.no _)
  have hlo : ∀ p, p ∈ (⟨fun i => if i = 0 then .yl b else .d .no, #[.func (.yield l) #[] #[]], some n, []⟩ :: fr : List Fr) → ∃ l, p.lo = some l ∧ l ≤ n := by
    intro p hp
    rcases List.mem_cons.1 hp with rfl | hp
    · exact ⟨n, rfl, Nat.le_refl _⟩
    · exact hl p hp
  have H2 : SR n₀ w₀ S₀ S σ { t, N, h, n, lo := n } (⟨fun i => if i = 0 then .yl b else .d .no, #[.func (.yield l) #[] #[]], some n, []⟩ :: fr) { tmps := r.tmps, defers := [] } w :=
    ⟨by simpa [dsOf] using H1.push (lo := none) g8, hlo, Nat.le_refl _, g7, fun d hd => by simp at hd⟩
  have H3 := puts_ok ps.toList args vs _ _ H2 hvl hv
  have e0 : (r.params.zip vs.toArray).foldl (fun tmps (t, a) => tmps.setIfInBounds t a) r.tmps = (ps.toList.zip vs).foldl (fun tmps (t, v) => tmps.setIfInBounds t v) r.tmps := by
    rw [g4, ← Array.foldl_toList, Array.toList_zip]
  rw [e0, g5, g6]
  refine wpIn_mono (code_ok (F := Fence.wide.inRound l) (k := 0) hT (.inr ⟨l, rfl⟩) hm (fun h => by cases h) asg _ _ S σ _ w hp H3) ?_
  rintro e a1 w1 ⟨⟨s1, S1, σ1, hq, H4⟩, he⟩
  unfold bgn at hq
  split at hq
  · rename_i hb0
    split at hq
    · rename_i t1 N1 ps1 as1 bd1 hb1
      have hσ1 := tie H4.h
      obtain ⟨r1, k1, k2, k3, k4, k5, k6, k7, k8, k9⟩ := H4.h.wrLp hb1 hσ1 .busy none
      refine ⟨_, run_beginRound k1 k2, ?_⟩
      have k9' : HR n₀ w₀ S₀ S1 σ1 (upd s1.h b (.lp .busy none t1 N1 ps1 as1 bd1)) s1.n (⟨s1.t, a1.tmps, none, dsOf a1.defers⟩ :: ⟨fun i => if i = 0 then .yl b else .d .no, #[.func (.yield l) #[] #[]], some n, []⟩ :: fr) (w1.putObj l (.loop { r1 with state := .busy })) := by
        have e : ({ r1 with state := .busy, pending := none } : Loop) = { r1 with state := .busy } := by rw [← k3]
        rw [← e]
        exact k9
      refine wpIn_mono (code_ok (F := Fence.wide.inRound l) (k := 0) hT (.inr ⟨l, rfl⟩) hm (fun h => by cases h) bd _ _ S1 σ1 _ _ hq ⟨k9', H4.lo, H4.lon, H4.N, H4.d⟩) ?_
      rintro e a2 w2 ⟨⟨s2, S2, σ2, hq2, H5⟩, he2⟩
      have fin : ∀ (st : LoopState) (pend : Option Code), st = (if pend.isNone then .ready else .done) → rndF b n Q s2 st pend pend.isNone → ∃ v w', (Instr.endRound l pend).run P w2 = .ok v w' ∧ ∃ r h' n' S' σ' v_1, Ending.returned v = .returned v_1 ∧ Q r h' n' ∧ HR n₀ w₀ S₀ S' σ' h' n' fr w' ∧ Vr w' S' σ' r v_1 ∧ n ≤ n' := by
        rintro st pend rfl hq3
        unfold rndF at hq3
        split at hq3
        · rename_i st3 pend3 t3 N3 ps3 as3 bd3 hb3
          replace hq3 := chk_iff.1 hq3
          obtain ⟨hlo3, hq3⟩ := hq3
          have hlo3 := Nat.eq_of_beq_eq_true hlo3
          obtain ⟨r3, m1, m2, m3, m4, m5, m6, m7, m8, m9⟩ := H5.h.wrLp hb3 (tie H5.h) (if pend.isNone then .ready else .done) pend
          exact ⟨_, _, run_endRound pend m1, _, _, _, S2, σ2, _, rfl, hq3, m9.drop.drop, .d (.v _), by have := H5.lon; omega⟩
        · exact hq3.elim
      cases e with
      | normal => exact fin .ready none rfl hq2
      | ret => exact fin .done (some .ret) rfl hq2
      | exit i => exact fin .done (some (.exit i)) rfl hq2
      | goto i => exact fin .done (some (.goto i)) rfl hq2
      | panic c => exact he2.elim
      | outgrown => exact he2.elim
    · exact hq.elim
  · exact hq.elim
end
end Go.Proofs.YtkhgpnbhnipndaaGreatDoor.Am
end
section
/-! What is known, told anew: fewer temporaries, other numbers of the boxes. -/
namespace Go.Proofs.YtkhgpnbhnipndaaGreatDoor.Am
open Go Go.RowKit
set_option linter.unusedVariables false
set_option linter.unusedSimpArgs false
set_option linter.unusedVariables false
set_option linter.unusedSimpArgs false
def ren (ρ : List Nat) : V → V
  | .d x => .d x
  | .bs b => .bs (ρ.getD b 0)
  | .pt b o => .pt (ρ.getD b 0) o
  | .ep l o => .ep l o
  | .fn f c => .fn f (rens ρ c)
  | .agg l => .agg (rens ρ l)
  | .tup l => .tup (rens ρ l)
  | .ifc t x => .ifc t (ren ρ x)
  | .yl b => .yl (ρ.getD b 0)
where rens (ρ : List Nat) : List V → List V
  | [] => []
  | x :: l => ren ρ x :: rens ρ l
theorem rens_len {ρ : List Nat} : ∀ (l : List V), (ren.rens ρ l).length = l.length
  | [] => rfl
  | x :: l => congrArg Nat.succ (rens_len l)
def renO (ρ : List Nat) : Ob → Ob
  | .st t l => .st t (ren.rens ρ l)
  | o => o
def Ob.noLp : Ob → Bool
  | .lp .. => false
  | _ => true
def pinT (ρ : List Nat) (s : St) : List (Nat × V) → Prop
  | [] => True
  | (j, x) :: l => s.t j = ren ρ x ∧ pinT ρ s l
def pinH (ρ : List Nat) (s : St) : List Nat → List (Option Ob) → Prop
  | _, [] => True
  | [], _ :: _ => False
  | a :: asg, none :: l => pinH ρ s asg l
  | a :: asg, some o :: l => (s.h a = some (renO ρ o) ∧ (o.noLp || Nat.blt a s.lo) = true) ∧ pinH ρ s asg l
def ids : List Nat → Nat → Bool
  | _, 0 => true
  | l, n + 1 => ids l n && (match l[n]? with | some m => Nat.beq m n | none => false)
def rσ (ρ : List Nat) (σ : Sg) : Sg := fun b => match ρ[b]? with | some a => σ a | none => none
section
variable {n₀ : Nat} {w₀ w w' : World} {S₀ S S' : Nat → Prop} {σ σ' : Sg} {h : Hp} {n k : Nat} {fr : List Fr} {P : Program} {T : Tab} {F : Fence} {o : Oper} {s s' : St} {a : Act} {K : St → Prop} {rd : Bool} {pl : Plans} {ρ : List Nat}
theorem rσ_of {b : Nat} {u : Value} (hb : σ (ρ.getD b 0) = some u) (hlt : b < ρ.length) : rσ ρ σ b = some u := by
  simp only [rσ, List.getElem?_eq_getElem hlt]
  simpa [List.getD_eq_getElem?_getD, List.getElem?_eq_getElem hlt] using hb
/-- the boxes of a value lie below -/
def bel (n : Nat) : V → Bool
  | .bs b => Nat.blt b n
  | .pt b _ => Nat.blt b n
  | .yl b => Nat.blt b n
  | .fn _ c => bels n c
  | .agg c => bels n c
  | .tup c => bels n c
  | .ifc _ x => bel n x
  | _ => true
where bels (n : Nat) : List V → Bool
  | [] => true
  | x :: l => bel n x && bels n l
mutual
theorem ren_ok : ∀ (x : V) (v : Value), bel ρ.length x = true → Vr w S σ (ren ρ x) v → Vr w S (rσ ρ σ) x v
  | .d x, v, _, h => by cases h with | d h => exact .d h
  | .bs b, v, hb, h => by cases h with | bs h h1 => exact .bs (rσ_of h (by simpa [bel, Nat.blt_eq] using hb)) h1
  | .pt b o, v, hb, h => by cases h with | pt u h h1 => exact .pt u (rσ_of h (by simpa [bel, Nat.blt_eq] using hb)) h1
  | .yl b, v, hb, h => by cases h with | yl h => exact .yl (rσ_of h (by simpa [bel, Nat.blt_eq] using hb))
  | .ep l o, v, _, h => by cases h with | ep g p us h1 h2 h3 h4 h5 => exact .ep g p us h1 h2 h3 h4 h5
  | .fn f c, v, hb, h => by cases h with | fn vs h1 h2 => exact .fn vs (by rw [h1, rens_len]) (rens_ok c vs hb h2)
  | .agg c, v, hb, h => by cases h with | agg vs h1 h0 h2 => exact .agg vs (by rw [h1, rens_len]) h0 (rens_ok c vs hb h2)
  | .tup c, v, hb, h => by cases h with | tup vs h1 h2 => exact .tup vs (by rw [h1, rens_len]) (rens_ok c vs hb h2)
  | .ifc t x, v, hb, h => by cases h with | ifc h => exact .ifc (ren_ok x _ hb h)
theorem rens_ok : ∀ (l : List V) (vs : List Value), bel.bels ρ.length l = true → (∀ (i : Nat) x u, (ren.rens ρ l)[i]? = some x → vs[i]? = some u → Vr w S σ x u) → ∀ (i : Nat) x u, l[i]? = some x → vs[i]? = some u → Vr w S (rσ ρ σ) x u
  | [], _, _, _, i, x, u, hx, _ => by simp at hx
  | y :: l, vs, hb, hl, 0, x, u, hx, hu => by
    simp only [List.getElem?_cons_zero, Option.some.injEq] at hx
    subst hx
    exact ren_ok y u (Bool.and_eq_true_iff.1 hb).1 (hl 0 _ u rfl hu)
  | y :: l, [], _, hl, i + 1, x, u, hx, hu => by simp at hu
  | y :: l, v :: vs, hb, hl, i + 1, x, u, hx, hu => rens_ok l vs (Bool.and_eq_true_iff.1 hb).2 (fun j a c ha hc => hl (j + 1) a c (by simpa [ren.rens] using ha) (by simpa using hc)) i x u (by simpa using hx) (by simpa using hu)
end
def belO (n : Nat) : Ob → Bool
  | .st _ l => bel.bels n l
  | _ => true
theorem pinT_ok : ∀ {tl : List (Nat × V)}, pinT ρ s tl → tl.all (fun p => bel ρ.length p.2) = true → ∀ i, pin tl i = .d .no ∨ (s.t i = ren ρ (pin tl i) ∧ bel ρ.length (pin tl i) = true)
  | [], _, _, i => .inl rfl
  | (j, x) :: tl, h, hb, i => by
    rw [List.all_cons, Bool.and_eq_true] at hb
    unfold pin
    by_cases e : i = j
    · subst e
      simp only [Nat.beq_refl, cond_true]
      exact .inr ⟨h.1, hb.1⟩
    · simp only [beq_ne e, cond_false]
      exact pinT_ok h.2 hb.2 i
theorem pinH_ok : ∀ {asg : List Nat} {hl : List (Option Ob)}, pinH ρ s asg hl → hl.all (fun o => match o with | some o => belO ρ.length o | none => true) = true → ∀ (b : Nat) o, hl[b]? = some (some o) → ∃ a, asg[b]? = some a ∧ s.h a = some (renO ρ o) ∧ (o.noLp = true ∨ a < s.lo) ∧ belO ρ.length o = true
  | asg, [], _, _, b, o, hb => by simp at hb
  | [], _ :: _, h, _, _, _, _ => h.elim
  | a :: asg, none :: hl, h, hall, b, o, hb => by
    cases b with
    | zero => simp at hb
    | succ b =>
      rw [List.all_cons, Bool.and_eq_true] at hall
      rw [List.getElem?_cons_succ] at hb ⊢
      exact pinH_ok (asg := asg) h hall.2 b o hb
  | a :: asg, some o' :: hl, h, hall, b, o, hb => by
    rw [List.all_cons, Bool.and_eq_true] at hall
    cases b with
    | zero =>
      simp only [List.getElem?_cons_zero, Option.some.injEq] at hb
      subst hb
      refine ⟨a, rfl, h.1.1, ?_, hall.1⟩
      rcases Bool.or_eq_true_iff.1 h.1.2 with h1 | h1
      · exact .inl h1
      · exact .inr (by rw [Nat.blt_eq] at h1; exact h1)
    | succ b =>
      rw [List.getElem?_cons_succ] at hb ⊢
      exact pinH_ok (asg := asg) h.2 hall.2 b o hb
theorem ids_ok : ∀ {n : Nat}, ids ρ n = true → ∀ i, i < n → ρ[i]? = some i
  | 0, _, i, hi => by omega
  | n + 1, h, i, hi => by
    unfold ids at h
    rw [Bool.and_eq_true] at h
    by_cases e : i = n
    · subst e
      have := h.2
      split at this
      · rename_i m hm
        rw [hm, Nat.eq_of_beq_eq_true this]
      · cases this
    · exact ids_ok h.1 i (by omega)
theorem Wk.pin (ρ : List Nat) (tl : List (Nat × V)) (hl : List (Option Ob)) (ht : pinT ρ s tl) (hh : pinH ρ s ρ hl) (hid : ids ρ s.lo = true) (hlen : hl.length = ρ.length) (hnd : ρ.Nodup) (hbt : tl.all (fun p => bel ρ.length p.2) = true)
    (hbh : hl.all (fun o => match o with | some o => belO ρ.length o | none => true) = true) : Wk s { t := Am.pin tl, N := s.N, h := hpin hl, n := ρ.length, lo := s.lo } := by
  refine ⟨fun n₀ w₀ S₀ S σ fr a w H => ⟨S, rσ ρ σ, ?_⟩⟩
  have hids := ids_ok hid
  have hinj : ∀ b b' a, ρ[b]? = some a → ρ[b']? = some a → b = b' := fun b b' a h1 h2 => by
    exact (List.getElem?_inj (List.getElem?_eq_some_iff.1 h1).1 hnd).1 (h1.trans h2.symm)
  have hlo : s.lo ≤ ρ.length := by
    rcases Nat.eq_zero_or_pos s.lo with h0 | h0
    · omega
    · have := hids (s.lo - 1) (by omega)
      have := (List.getElem?_eq_some_iff.1 this).1
      omega
  have hσ : ∀ b u, rσ ρ σ b = some u → ∃ a, ρ[b]? = some a ∧ σ a = some u := fun b u h => by
    unfold rσ at h
    split at h
    · rename_i a ha
      exact ⟨a, ha, h⟩
    · cases h
  have hb : ∀ b o, hpin hl b = some o → ∃ a, ρ[b]? = some a ∧ s.h a = some (renO ρ o) ∧ (o.noLp = true ∨ a < s.lo) ∧ belO ρ.length o = true := fun b o h => by
    unfold hpin at h
    split at h
    · rename_i o' ho
      subst h
      exact pinH_ok hh hbh b o ho
    · cases h
  have hlv : ∀ o : Ob, (renO ρ o).live = o.live := fun o => by cases o <;> rfl
  have hres : ∀ l, l ≤ s.lo → ∀ b u, res σ (some l) b = some u → res (rσ ρ σ) (some l) b = some u := fun l hl b u hbu => by
    simp only [res] at hbu ⊢
    split at hbu
    · rename_i hlt
      rw [if_pos hlt]
      simp only [rσ, hids b (by omega)]
      exact hbu
    · cases hbu
  have H0 := H.h
  refine ⟨⟨H0.old, H0.le0, H0.gl, H0.s0, H0.sS, ?_, ?_, ?_, ?_, ?_, H0.nd, ?_⟩, H.lo, hlo, H.N, H.d⟩
  · intro b o hbo
    obtain ⟨a', h1, h2, h3, h4⟩ := hb b o hbo
    have B := H0.bx a' _ h2
    have hlt := (List.getElem?_eq_some_iff.1 h1).1
    have tr : ∀ u, σ a' = some u → rσ ρ σ b = some u := fun u hu => by simp only [rσ, h1]; exact hu
    cases o with
    | st t l =>
      obtain ⟨g, cs, e1, e2, e3, e4, e5⟩ := B
      exact ⟨g, cs, tr _ e1, e2, e3, e4, ⟨by rw [e5.len, rens_len], rens_ok l _ h4 e5.at_⟩⟩
    | ar e z m l =>
      obtain ⟨v, us, e1, e2, e3, e4⟩ := B
      exact ⟨v, us, tr _ e1, e2, e3, e4⟩
    | fz z m l =>
      obtain ⟨v, e1, e2⟩ := B
      exact ⟨v, tr _ e1, e2⟩
    | mp l =>
      obtain ⟨g, es, clock, e1, e2, e3, e4, e5⟩ := B
      exact ⟨g, es, clock, tr _ e1, e2, e3, e4, e5⟩
    | lp st pend t N ps asg bd =>
      obtain ⟨l, r, e1, e2, e3, e4, e5⟩ := B
      have hlt' : a' < s.lo := h3.resolve_left (by simp [Ob.noLp])
      have hab : b = a' := hinj b a' a' h1 (hids a' hlt')
      subst hab
      exact ⟨l, r, tr _ e1, e2, e3, e4, fun i => (e5 i).mono (fun _ _ => rfl) (fun _ h => h) (hres b (by omega))⟩
  · intro p hp i
    rcases List.mem_cons.1 hp with rfl | hp
    · rcases pinT_ok ht hbt i with e | ⟨e1, e2⟩
      · simp only [e]
        exact .d (.no _)
      · have := H0.fr _ List.mem_cons_self i
        simp only [e1] at this
        exact ren_ok _ _ e2 this
    · have := H0.fr p (List.mem_cons_of_mem _ hp) i
      obtain ⟨l, h1, h2⟩ := H.lo p hp
      rw [h1] at this ⊢
      exact this.mono (fun _ _ => rfl) (fun _ h => h) (hres l h2)
  · intro b b' o o' h1 h2 l1 l2 hne u u' g hu hu' hg
    obtain ⟨a1, x1, y1, _⟩ := hb b o h1
    obtain ⟨a2, x2, y2, _⟩ := hb b' o' h2
    obtain ⟨c1, z1, q1⟩ := hσ b u hu
    obtain ⟨c2, z2, q2⟩ := hσ b' u' hu'
    rw [x1] at z1
    rw [x2] at z2
    cases z1
    cases z2
    exact H0.sep a1 a2 _ _ y1 y2 (by rw [hlv]; exact l1) (by rw [hlv]; exact l2) (fun e => by subst e; exact hne (hinj b b' a1 x1 x2)) u u' g q1 q2 hg
  · intro b o h1 l1 u g hu hg
    obtain ⟨a1, x1, y1, _⟩ := hb b o h1
    obtain ⟨c1, z1, q1⟩ := hσ b u hu
    rw [x1] at z1
    cases z1
    exact H0.un a1 _ y1 (by rw [hlv]; exact l1) u g q1 hg
  · intro p hp d hd
    have hp' : ∃ q, q ∈ (⟨s.t, a.tmps, none, dsOf a.defers⟩ :: fr : List Fr) ∧ d ∈ q.ds := by
      rcases List.mem_cons.1 hp with rfl | hp
      · exact ⟨_, List.mem_cons_self, hd⟩
      · exact ⟨p, List.mem_cons_of_mem _ hp, hd⟩
    obtain ⟨q, hq, hdq⟩ := hp'
    obtain ⟨d1, d2, d3, d4⟩ := H0.ds q hq d hdq
    refine ⟨d1, d2, d3, fun b o u h1 l1 hu => ?_⟩
    obtain ⟨a1, x1, y1, _⟩ := hb b o h1
    obtain ⟨c1, z1, q1⟩ := hσ b u hu
    rw [x1] at z1
    cases z1
    exact d4 a1 _ u y1 (by rw [hlv]; exact l1) q1
  · intro b hbn
    have hbn : ρ.length ≤ b := hbn
    have e1 : ρ[b]? = none := List.getElem?_eq_none_iff.2 hbn
    have e2 : hl[b]? = none := List.getElem?_eq_none_iff.2 (by omega)
    exact ⟨by simp only [hpin, e2], by simp only [rσ, e1]⟩
theorem Wk.trans {s1 s2 s3 : St} (h1 : Wk s1 s2) (h2 : Wk s2 s3) : Wk s1 s3 :=
  ⟨fun n₀ w₀ S₀ S σ fr a w H => by
    obtain ⟨S', σ', H'⟩ := h1.tol n₀ w₀ S₀ S σ fr a w H
    exact h2.tol n₀ w₀ S₀ S' σ' fr a w H'⟩
theorem Wk.refl (s : St) : Wk s s := ⟨fun _ _ _ S σ _ _ _ H => ⟨S, σ, H⟩⟩
/-- no row, told as a row of one's own that has no element yet -/
theorem Wk.virt (i e z : Nat) (hi : s.t i = .d (.v (.slice none 0 0))) (hN : i < s.N) : Wk s ({ s with h := upd s.h s.n (.ar e z 0 []), n := s.n + 1 }.put (some i) (.bs s.n)) := by
  refine ⟨fun n₀ w₀ S₀ S σ fr a w H => ⟨S, updσ σ s.n (.slice none 0 0), ?_⟩⟩
  have H1 := H.h.newAr (v := .slice none 0 0) (grown_refl w none) (.inl rfl) (World.ownsRow_nil w n₀ e z) (fun u hu => by simp at hu) .nil
  have hv : a.tmps.getD i undef = .slice none 0 0 := by
    have := H.h.fr _ List.mem_cons_self i
    simp only [hi] at this
    generalize a.tmps.getD i undef = v at this ⊢
    cases this with
    | d h => cases h; rfl
  have H2 : SR n₀ w₀ S₀ S (updσ σ s.n (.slice none 0 0)) ({ s with h := upd s.h s.n (.ar e z 0 []), n := s.n + 1 }.put (some i) (.bs s.n)) fr (a.put (some i) (.slice none 0 0)) w :=
    SR.put' (s := { s with h := upd s.h s.n (.ar e z 0 []), n := s.n + 1 }) ⟨H1, H.lo, Nat.le_succ_of_le H.lon, H.N, H.d⟩ (.bs (by simp [updσ]) rfl) (some i)
  have e1 : a.put (some i) (.slice none 0 0) = a := by
    have hs : a.tmps.setIfInBounds i (.slice none 0 0) = a.tmps := by
      apply Array.ext_getElem?
      intro j
      by_cases e : i = j
      · subst e
        have hlt : i < a.tmps.size := by rw [H.N]; exact hN
        have : a.tmps[i] = .slice none 0 0 := by simpa [hlt] using hv
        simp [hlt, this]
      · rw [Array.getElem?_setIfInBounds_ne e]
    simp only [Act.put, hs]
  rw [e1] at H2
  exact H2
/-- a row of one's own, in another box -/
theorem Wk.mv (i b e z m : Nat) (l : List D) (hi : s.t i = .bs b) (hN : i < s.N) (hb : s.h b = some (.ar e z m l)) : Wk s ({ s with h := upd (kil s.h b) s.n (.ar e z m l), n := s.n + 1 }.put (some i) (.bs s.n)) := by
  refine ⟨fun n₀ w₀ S₀ S σ fr a w H => ?_⟩
  obtain ⟨v, us, e1, e2, e3, e4⟩ := H.h.bx b _ hb
  refine ⟨S, updσ σ s.n v, ?_⟩
  have H1 := H.h.appAr (v := v) hb e1 (grown_refl w _) (.inl rfl) e2 e2 e3 e4
  have hv : a.tmps.getD i undef = v := by
    have := H.h.fr _ List.mem_cons_self i
    simp only [hi] at this
    generalize a.tmps.getD i undef = u at this ⊢
    cases this with
    | bs h _ => simp only [res] at h; rw [e1] at h; cases h; rfl
  have H2 : SR n₀ w₀ S₀ S (updσ σ s.n v) ({ s with h := upd (kil s.h b) s.n (.ar e z m l), n := s.n + 1 }.put (some i) (.bs s.n)) fr (a.put (some i) v) w :=
    SR.put' (s := { s with h := upd (kil s.h b) s.n (.ar e z m l), n := s.n + 1 }) ⟨H1, H.lo, Nat.le_succ_of_le H.lon, H.N, H.d⟩ (.bs (by simp [updσ]) (own_one e2)) (some i)
  have e1 : a.put (some i) v = a := by
    have hs : a.tmps.setIfInBounds i v = a.tmps := by
      apply Array.ext_getElem?
      intro j
      by_cases e : i = j
      · subst e
        have hlt : i < a.tmps.size := by rw [H.N]; exact hN
        have : a.tmps[i] = v := by simpa [hlt] using hv
        simp [hlt, this]
      · rw [Array.getElem?_setIfInBounds_ne e]
    simp only [Act.put, hs]
  rw [e1] at H2
  exact H2
/-- the same, of a box's cell -/
theorem Wk.virtB (b i e z t : Nat) (l : List V) (hb : s.h b = some (.st t l)) (hi : l[i]? = some (.d (.v (.slice none 0 0)))) : Wk s { s with h := upd (upd s.h s.n (.ar e z 0 [])) b (.st t (l.set i (.bs s.n))), n := s.n + 1 } := by
  refine ⟨fun n₀ w₀ S₀ S σ fr a w H => ⟨S, updσ σ s.n (.slice none 0 0), ?_⟩⟩
  have H1 := H.h.newAr (v := .slice none 0 0) (grown_refl w none) (.inl rfl) (World.ownsRow_nil w n₀ e z) (fun u hu => by simp at hu) .nil
  have hbn : b ≠ s.n := fun e => by rw [e, (H.h.fresh s.n (Nat.le_refl _)).1] at hb; cases hb
  have hb1 : upd s.h s.n (.ar e z 0 []) b = some (.st t l) := by unfold upd; rw [beq_ne hbn]; exact hb
  obtain ⟨g, cs, e1, e2, e3, e4, e5⟩ := H1.bx b _ hb1
  refine ⟨H1.wrg (w' := w) hb1 rfl e1 rfl (grown_refl w _) fun b1 p1 h1 => (upd_eq h1).imp ?_ id, H.lo, Nat.le_succ_of_le H.lon, H.N, H.d⟩
  rintro ⟨rfl, rfl⟩
  refine ⟨rfl, g, cs, e1, e2, e3, e4, ⟨by rw [e5.len, List.length_set], fun j x u hx hu => ?_⟩⟩
  by_cases hij : i = j
  · subst hij
    have h0 := e5.at_ i _ u hi hu
    rw [List.getElem?_set_self (List.getElem?_eq_some_iff.1 hi).1] at hx
    cases hx
    cases h0 with
    | d h0 => cases h0; exact .bs (by simp [updσ]) rfl
  · rw [List.getElem?_set_ne hij] at hx
    exact e5.at_ j x u hx hu
/-- a loop, by what is left -/
theorem loop_ind {α : Type} {B : St → (Exit → St → Prop) → Prop} {Q : Exit → St → Prop} (f : Nat → α → Prop) (ps : α → St) (h0 : ∀ x, ¬ f 0 x)
    (hs : ∀ k x (R : St → Prop), (∀ y s, f k y → Wk s (ps y) → R s) → f (k + 1) x → B (ps x) (fun e s => match e with | .normal => R s | e => Q e s)) (k : Nat) (x : α) (hk : f k x) (s : St) (hw : Wk s (ps x)) : ∃ n, loopP B n s Q := by
  suffices h : ∀ k x s, f k x → Wk s (ps x) → loopP B k s Q from ⟨k, h k x s hk hw⟩
  intro k
  induction k with
  | zero => intro x s hf; exact absurd hf (h0 x)
  | succ k ih => exact fun x s hf hw => ⟨ps x, hw, hs k x _ ih hf⟩
end
end Go.Proofs.YtkhgpnbhnipndaaGreatDoor.Am
end
section
/-! Data told otherwise: a nil row as an empty one, a row without its room. -/
namespace Go.Proofs.YtkhgpnbhnipndaaGreatDoor.Am
open Go Go.RowKit
set_option linter.unusedVariables false
set_option linter.unusedSimpArgs false
inductive Tel : D → D → Prop
  | refl (x : D) : Tel x x
  | nil (z : Nat) (c : Option Nat) (h : c = none ∨ c = some 0) : Tel (.v (.slice none 0 0)) (.sl z [] 0 c)
  | cap (z : Nat) (l : List D) (n : Nat) (c : Option Nat) : Tel (.sl z l n c) (.sl z l n none)
  | agg {l l' : List D} : l.length = l'.length → (∀ (i : Nat) x y, l[i]? = some x → l'[i]? = some y → Tel x y) → Tel (.agg l) (.agg l')
  | tup {l l' : List D} : l.length = l'.length → (∀ (i : Nat) x y, l[i]? = some x → l'[i]? = some y → Tel x y) → Tel (.tup l) (.tup l')
inductive Tels : List D → List D → Prop
  | nil : Tels [] []
  | cons {x y : D} {l l' : List D} : Tel x y → Tels l l' → Tels (x :: l) (y :: l')
theorem Tels.len {l l' : List D} (h : Tels l l') : l.length = l'.length := by
  induction h with
  | nil => rfl
  | cons _ _ ih => simp [ih]
theorem Tels.at_ {l l' : List D} (h : Tels l l') : ∀ (i : Nat) x y, l[i]? = some x → l'[i]? = some y → Tel x y := by
  induction h with
  | nil => intro i x y hx; simp at hx
  | cons h _ ih =>
    intro i x y hx hy
    cases i with
    | zero => cases hx; cases hy; exact h
    | succ i => exact ih i x y hx hy
theorem Tel.aggs {l l' : List D} (h : Tels l l') : Tel (.agg l) (.agg l') := .agg h.len h.at_
theorem Tel.tups {l l' : List D} (h : Tels l l') : Tel (.tup l) (.tup l') := .tup h.len h.at_
theorem Tels.refl : ∀ l : List D, Tels l l
  | [] => .nil
  | x :: l => .cons (.refl x) (Tels.refl l)
theorem Dr.tel {w : World} {S : Nat → Prop} {x y : D} (h : Tel x y) : ∀ {v : Value}, Dr w S x v → Dr w S y v := by
  induction h with
  | refl x => exact fun h => h
  | nil z c hc =>
    intro v h
    cases h
    exact .nil z c (fun k hk => by rcases hc with rfl | rfl <;> cases hk; rfl)
  | cap z l n c =>
    intro v h
    cases h with
    | nil z c h => exact .nil z none (fun k hk => by cases hk)
    | emp z c a h => exact .emp z none a (fun k hk => by cases hk)
    | sl g o k us h1 h2 h3 h4 h5 h6 h7 h8 h9 => exact .sl g o k us h1 h2 h3 (fun k' hk => by cases hk) h5 h6 h7 h8 h9
  | agg hl _ ih =>
    intro v h
    cases h with
    | agg vs h1 h2 h3 =>
        refine .agg vs (by omega) h2 fun i y u hy hu => ?_
        have hi := (List.getElem?_eq_some_iff.1 hy).1
        exact ih i _ y (List.getElem?_eq_getElem (by omega)) hy (h3 i _ u (List.getElem?_eq_getElem (by omega)) hu)
  | tup hl _ ih =>
    intro v h
    cases h with
    | tup vs h1 h3 =>
        refine .tup vs (by omega) fun i y u hy hu => ?_
        have hi := (List.getElem?_eq_some_iff.1 hy).1
        exact ih i _ y (List.getElem?_eq_getElem (by omega)) hy (h3 i _ u (List.getElem?_eq_getElem (by omega)) hu)
section
variable {h : Hp} {n : Nat} {P : Program} {T : Tab} {p : FuncId}
theorem Runs.tel {args ds : List D} {r r' : D} (hr : Runs P p ds r) (ha : Tels args ds) (ht : Tel r r') : Runs P p args r' := by
  refine ⟨hr.1, fun w S vs hg hS hlen hv => (hr.2 w S vs hg hS (hlen.trans ha.len) fun i x u hx hu => ?_).mono ?_⟩
  · have hi := (List.getElem?_eq_some_iff.1 hx).1
    have hl := ha.len
    exact Dr.tel (ha.at_ i _ x (List.getElem?_eq_getElem (by omega)) hx) (hv i _ u (List.getElem?_eq_getElem (by omega)) hu)
  · rintro e w' ⟨v, he, hb, hd⟩
    exact ⟨v, he, hb, hd.tel ht⟩
theorem Hc.runs {args : List V} {ds : List D} {r : D} {Q : V → Hp → Nat → Prop} (hr : Runs P p ds r) (hd : Tels (dat.dats h args) ds) (hq : Q r.toV (frz.frzs h args) n) : Hc P p args h n Q :=
  .of_runs (hr.tel hd (.refl r)) rfl hq
theorem Hc.flat {args : List V} {ds : List D} {r : D} {Q : V → Hp → Nat → Prop} (hr : Runs P p ds r) (hd : Tels (dat.dats h args) ds) (hf : r.flat = true) (hq : Q r.toV h n) : Hc P p args h n Q :=
  .of_flat (hr.tel hd (.refl r)) rfl hf hq
theorem HcB.runs {args : List V} {ds : List D} {r : D} {Q : V → Hp → Nat → Prop} (hr : Runs P p ds r) (hd : Tels (dat.dats h args) ds) (hq : Q r.toV (frz.frzs h args) n) : HcB P p args h n Q :=
  .of_runs (hr.tel hd (.refl r)) rfl hq
theorem HcB.flat {args : List V} {ds : List D} {r : D} {Q : V → Hp → Nat → Prop} (hr : Runs P p ds r) (hd : Tels (dat.dats h args) ds) (hf : r.flat = true) (hq : Q r.toV h n) : HcB P p args h n Q :=
  .of_flat (hr.tel hd (.refl r)) rfl hf hq
/-- a contract, out of the body; what is told may be told otherwise -/
theorem Runs.wp (hT : TOk P T) (hm : P.follows .mixedOrders = true) {fn : Func} {c : Code} (hf : P.funcs[p]? = some fn) (hb : fn.body = some c) (hname : fn.name ≠ "runtime.NumGoroutine") {args : List D} {r : D} (pl : Plans)
    (hp : wpP P T false pl c (St.enter (args.map D.toV) fn.ntmps (fun _ => none) 0) (retQ T fn 0 (fun x h _ => Tel (dat h x) r))) : Runs P p args r := by
  refine ⟨⟨fn, hf, by rw [hb]; rfl, hname⟩, fun w S vs hg hS hlen hv => ?_⟩
  have H : HR w.heap.size w S S (fun _ => none) (fun _ => none) 0 [] w :=
    ⟨Below.refl _ _, rfl, hg, fun _ h _ => h, hS, (fun _ _ h => by cases h), (fun _ h => by cases h), (fun _ _ _ _ h => by cases h), (fun _ _ h => by cases h), (fun _ h => by cases h), by simp, fun _ _ => ⟨rfl, rfl⟩⟩
  refine (body_ok hT hm hf hb hp H (fun _ h => by cases h) (vs := vs) (by simpa using hlen) (fun i x u hx hu => ?_)).mono ?_
  · rw [List.getElem?_map] at hx
    cases e : args[i]? with
    | none => rw [e] at hx; cases hx
    | some y => rw [e] at hx; cases hx; exact toV_ok (hv i y u e hu)
  · rintro e w' ⟨x, h', n', S', σ', v, rfl, hq, H', hx, _⟩
    obtain ⟨g1, S2, g2, g3, g4⟩ := frz_ok x v h' S' H' hx
    refine ⟨v, rfl, H'.old, Dr.tel hq ?_⟩
    refine g4.mono (fun _ _ => rfl) fun g hg => ?_
    by_cases hlt : g < w.heap.size
    · exact .inl (g2.s0 g hg hlt)
    · exact .inr ⟨by omega, g2.sS g hg⟩
end
theorem Tel.nil1 (z : Nat) {c : Option Nat} (h : (c == none || c == some 0) = true := by rfl) : Tel (.v (.slice none 0 0)) (.sl z [] 0 c) := .nil z c (by simpa using h)
theorem Cl {p q A B : Prop} (h : ¬p) (k : B) : (p → A) ∧ (q → B) := ⟨fun a => absurd a h, fun _ => k⟩
theorem Cr {p q A B : Prop} (h : ¬q) (k : A) : (p → A) ∧ (q → B) := ⟨fun _ => k, fun a => absurd a h⟩
theorem Lt {b : Bool} {K : Bool → Prop} (h : b = true) (k : K true) : ∀ v, b = v → K v := fun v e => by rw [← e, h]; exact k
theorem Mi {kd : TypeDesc} {kv : Value} {l : List (Value × D)} {i : Nat} {K : Option (Nat × D) → Prop} {q : Option (Nat × D)} (h : fnd kd kv l i = some q) (k : K q) : ∃ q, fnd kd kv l i = some q ∧ K q := ⟨q, h, k⟩
theorem Lf {b : Bool} {K : Bool → Prop} (h : b = false) (k : K false) : ∀ v, b = v → K v := fun v e => by rw [← e, h]; exact k
theorem Lb {b : Bool} {K : Bool → Prop} (h1 : b = true → K true) (h2 : b = false → K false) : ∀ v, b = v → K v := fun v e => by
  subst e
  cases b
  · exact h2 rfl
  · exact h1 rfl
theorem Wo {s : St} {K : St → Prop} (k : K s) : ∃ s', Wk s s' ∧ K s' := ⟨s, Wk.refl s, k⟩
theorem Tel.bool {b c : Bool} (h : b = c) : Tel (.v (.bool b)) (.v (.bool c)) := h ▸ .refl _
/-- what is known, told by lists -/
def eqT (t : Nat → V) : List (Nat × V) → Prop
  | [] => True
  | (j, x) :: l => t j = x ∧ eqT t l
def eqH (h : Hp) : Nat → List (Option Ob) → Prop
  | _, [] => True
  | b, none :: l => eqH h (b + 1) l
  | b, some o :: l => h b = some o ∧ eqH h (b + 1) l
theorem eqT_ok {t : Nat → V} : ∀ {tl : List (Nat × V)}, eqT t tl → ∀ i, Am.pin tl i = .d .no ∨ Am.pin tl i = t i
  | [], _, _ => .inl rfl
  | (j, x) :: tl, h, i => by
    unfold Am.pin
    by_cases e : i = j
    · subst e
      simp only [Nat.beq_refl, cond_true]
      exact .inr h.1.symm
    · simp only [beq_ne e, cond_false]
      exact eqT_ok h.2 i
theorem eqH_ok {h : Hp} : ∀ {hl : List (Option Ob)} {b : Nat}, eqH h b hl → ∀ (j : Nat) o, hl[j]? = some (some o) → h (b + j) = some o
  | [], _, _, j, o, hj => by simp at hj
  | none :: hl, b, hh, j, o, hj => by
    cases j with
    | zero => simp at hj
    | succ j =>
      rw [List.getElem?_cons_succ] at hj
      rw [show b + (j + 1) = b + 1 + j by omega]
      exact eqH_ok (hl := hl) hh j o hj
  | some o' :: hl, b, hh, j, o, hj => by
    cases j with
    | zero => simp only [List.getElem?_cons_zero, Option.some.injEq] at hj; subst hj; exact hh.1
    | succ j =>
      rw [List.getElem?_cons_succ] at hj
      rw [show b + (j + 1) = b + 1 + j by omega]
      exact eqH_ok hh.2 j o hj
theorem Wk.to {s : St} (tl : List (Nat × V)) (hl : List (Option Ob)) (ht : eqT s.t tl) (hh : eqH s.h 0 hl) : Wk s { t := Am.pin tl, N := s.N, h := hpin hl, n := s.n, lo := s.lo } := by
  refine Wk.less (eqT_ok ht) fun b => ?_
  unfold hpin
  split
  · rename_i o ho
    cases o with
    | none => exact .inl rfl
    | some o =>
      have := eqH_ok hh b o ho
      rw [Nat.zero_add] at this
      exact .inr this.symm
  · exact .inl rfl
theorem Wk.frc {keep : List Nat} {N : Nat} {s s' : St} (h : frcP keep N s fun x => x = s') : Wk s s' := by
  obtain ⟨s2, h1, rfl⟩ := frc_ok h
  exact h1
theorem slE {z z' n n' : Nat} {l l' : List D} {c c' : Option Nat} (h1 : l = l') (h2 : n = n') (h3 : c = c') (h0 : z = z' := by rfl) : V.d (.sl z l n c) = V.d (.sl z' l' n' c') := by subst h0 h1 h2 h3; rfl
theorem arE {e z n n' : Nat} {l l' : List D} (h1 : l = l') (h2 : n = n') : some (Ob.ar e z n l) = some (Ob.ar e z n' l') := by subst h1 h2; rfl
theorem inE {k : IntKind} {x y : Int} (h : x = y) : V.d (.v (.int k x)) = V.d (.v (.int k y)) := by subst h; rfl
/-- the loop of a range over a function -/
def rngOf : Code → Option (Array Tmp × Code × Code)
  | .seq a b => (rngOf a).orElse fun _ => rngOf b
  | .cond _ a b => (rngOf a).orElse fun _ => rngOf b
  | .block _ a => rngOf a
  | .loop a => rngOf a
  | .rangeFunc _ p a b => some (p, a, b)
  | _ => none
def lpOf (f : Func) (st : LoopState) (pend : Option Code) (tl : List (Nat × V)) : Option Ob := match f.body with
  | some c => match rngOf c with
    | some (p, a, b) => some (.lp st pend (Am.pin tl) f.ntmps p a b)
    | none => none
  | none => none
section
set_option linter.unusedVariables false
theorem HfA {P : Program} {p : FuncId} {h : Hp} {n : Nat} {args : List V} {ds : List D} {r : D} {Q : V → Hp → Nat → Prop} (hr : Runs P p ds r) (hq : Q r.toV h n) (hd : Tels (dat.dats h args) ds := by ((repeat ((conv => arg 1; whnf); first | exact Tels.nil | apply Tels.cons | apply Tel.aggs | apply Tel.tups | exact Tel.refl _ | exact Tel.nil1 _ | exact Tel.cap _ _ _ _)); first | done | fail)) (hf : r.flat = true := by rfl) : Hc P p args h n Q := Hc.flat hr hd hf hq
theorem HrA {P : Program} {p : FuncId} {h : Hp} {n : Nat} {args : List V} {ds : List D} {r : D} {Q : V → Hp → Nat → Prop} (hr : Runs P p ds r) (hq : Q r.toV (frz.frzs h args) n) (hd : Tels (dat.dats h args) ds := by ((repeat ((conv => arg 1; whnf); first | exact Tels.nil | apply Tels.cons | apply Tel.aggs | apply Tel.tups | exact Tel.refl _ | exact Tel.nil1 _ | exact Tel.cap _ _ _ _)); first | done | fail)) : Hc P p args h n Q := Hc.runs hr hd hq
theorem TeA {p : Prop} (h : p := by ((conv => whnf); ((repeat ((conv => arg 1; whnf); first | exact Tels.nil | apply Tels.cons | apply Tel.aggs | apply Tel.tups | exact Tel.refl _ | exact Tel.nil1 _ | exact Tel.cap _ _ _ _)); first | done | fail))) : p := h
theorem ArA {p : Prop} (h : p := by (first | decide | rfl | assumption | omega | (dsimp only; omega) | (unfold maxLen; omega) | ((try dsimp only [maxLen]); simp only [List.length_append, List.length_cons, List.length_nil, List.length_map, List.length_range, List.length_set, List.length_replicate]; omega) | ((try dsimp only [maxLen]); simp only [IntKind.wrap_i64, IntKind.wrap_u64, List.length_append, List.length_cons, List.length_nil, List.length_map, List.length_range, List.length_set, List.length_replicate]; omega) | ((try dsimp only [maxLen]); simp only [List.length_append, List.length_cons, List.length_nil, List.length_map, List.length_range, List.length_set, List.length_replicate] at *; omega))) : p := h
theorem Ex {α : Type} {a : Option α} {x : α} {K : α → Prop} (h : a = some x) (k : K x) : ∃ y, a = some y ∧ K y := ⟨x, h, k⟩
theorem Gq {A B : Prop} (k : A) (h : A → B := by first | exact fun k => Wo k | exact fun k => Lt (by decide) k | exact fun k => Lf (by decide) k | exact fun k => Cl (by decide) k | exact fun k => Cr (by decide) k | exact fun k => Ex rfl k | exact fun k => ⟨_, rfl, k⟩ | exact fun k => Mi rfl k) : B := h k
end
end Go.Proofs.YtkhgpnbhnipndaaGreatDoor.Am
end
section
/-! Functions that hand back a row of one's own. -/
namespace Go.Proofs.YtkhgpnbhnipndaaGreatDoor.Am
open Go Go.RowKit
set_option linter.unusedVariables false
set_option linter.unusedSimpArgs false
section
variable {n₀ : Nat} {w₀ w w' : World} {S₀ S S' : Nat → Prop} {σ σ' : Sg} {h : Hp} {n k : Nat} {fr : List Fr} {P : Program} {T : Tab} {p : FuncId}
/-- a contract over data, whose result is a row that nobody else has -/
def RunsR (P : Program) (p : FuncId) (args : List D) (e : TypeId) (us : List Value) : Prop :=
  Pl P p ∧ ∀ (w : World) (S : Nat → Prop) (vs : List Value), GLw w → (∀ g, S g → g < w.heap.size) → vs.length = args.length → (∀ (i : Nat) x u, args[i]? = some x → vs[i]? = some u → Dr w S x u) →
    Calls P p vs.toArray w fun e' w' => ∃ v, e' = .returned v ∧ Below w.heap.size w w' ∧ w'.ownsRow w.heap.size e 1 v us.length us
theorem al_v {us vs : List Value} (h : Al (Dr w S) (us.map D.v) vs) : vs = us := by
  apply List.ext_getElem?
  intro j
  by_cases hj : j < us.length
  · obtain ⟨u, hu, hd⟩ := h.get (i := j) (x := .v us[j]) (by simp [hj])
    rw [hu]
    cases hd
    simp [hj]
  · have hl := h.len
    rw [List.getElem?_eq_none (by simp at hl; omega), List.getElem?_eq_none (by omega)]
theorem v_al (us : List Value) : Al (Dr w S) (us.map D.v) us := ⟨by simp, fun i x u hx hu => by
  rw [List.getElem?_map, hu] at hx
  cases hx
  exact .v _⟩
theorem Runs.wpR (hT : TOk P T) (hm : P.follows .mixedOrders = true) {fn : Func} {c : Code} (hf : P.funcs[p]? = some fn) (hb : fn.body = some c) (hname : fn.name ≠ "runtime.NumGoroutine") {args : List D} {e : TypeId} {us : List Value} (pl : Plans)
    (hp : wpP P T false pl c (St.enter (args.map D.toV) fn.ntmps (fun _ => none) 0) (retQ T fn 0 (fun x h _ => ∃ b, x = .bs b ∧ h b = some (.ar e 1 us.length (us.map D.v))))) : RunsR P p args e us := by
  refine ⟨⟨fn, hf, by rw [hb]; rfl, hname⟩, fun w S vs hg hS hlen hv => ?_⟩
  have H : HR w.heap.size w S S (fun _ => none) (fun _ => none) 0 [] w :=
    ⟨Below.refl _ _, rfl, hg, fun _ h _ => h, hS, (fun _ _ h => by cases h), (fun _ h => by cases h), (fun _ _ _ _ h => by cases h), (fun _ _ h => by cases h), (fun _ h => by cases h), by simp, fun _ _ => ⟨rfl, rfl⟩⟩
  refine (body_ok hT hm hf hb hp H (fun _ h => by cases h) (vs := vs) (by simpa using hlen) (fun i x u hx hu => ?_)).mono ?_
  · rw [List.getElem?_map] at hx
    cases e : args[i]? with
    | none => rw [e] at hx; cases hx
    | some y => rw [e] at hx; cases hx; exact toV_ok (hv i y u e hu)
  · rintro e' w' ⟨x, h', n', S', σ', v, rfl, ⟨b, rfl, hb'⟩, H', hx, _⟩
    obtain ⟨v', us', g1, g2, g3, g4⟩ := H'.bx b _ hb'
    cases hx with
    | bs hσ _ =>
      rw [hσ] at g1
      cases g1
      obtain rfl := al_v g4
      exact ⟨v, rfl, H'.old, g2⟩
theorem Hc.rowR {args : List V} {ds : List D} {e : TypeId} {us : List Value} {Q : V → Hp → Nat → Prop} (hr : RunsR P p ds e us) (hd : Tels (dat.dats h args) ds) (hone : us.all Value.oneCell' = true) (hq : Q (.bs n) (upd (frz.frzs h args) n (.ar e 1 us.length (us.map D.v))) (n + 1)) : Hc P p args h n Q := by
  refine ⟨hr.1, fun n₀ w₀ S₀ S σ fr w vs H _ hlen hv => ?_⟩
  obtain ⟨g1, S', g2, g3, g4⟩ := frzs_ok args vs h S H hlen hv
  refine (hr.2 w S' vs H.glw g2.sS (by rw [hlen, ← hd.len, dats_len]) fun i x u hx hu => ?_).mono ?_
  · have hi := (List.getElem?_eq_some_iff.1 hx).1
    have hl := hd.len
    exact Dr.tel (hd.at_ i _ x (List.getElem?_eq_getElem (by omega)) hx) (g4 i _ u (List.getElem?_eq_getElem (by omega)) hu)
  · rintro e' w' ⟨v, rfl, hb, ho⟩
    have ho' : w'.ownsRow n₀ e 1 v us.length us := ⟨ho.1, ho.2.imp id fun ⟨g3, cap, cur, f1, f2, f3⟩ => ⟨g3, cap, cur, f1, Nat.le_trans g2.size f2, f3⟩⟩
    have hg : w.grownBy w' none := ⟨hb.os, hb.tape, hb.output, hb.size, fun k hk _ => hb.block k hk⟩
    refine ⟨_, _, _, S', _, v, rfl, hq, g2.grow (v := v) (row := none) (fun _ _ h => h) (fun g e => by cases e) (fun g e => by cases e) (fun _ _ _ _ _ _ _ _ e => by cases e) hg (fun g hg' => .inr ?_) ⟨v, us, by simp [updσ], ho', List.all_eq_true.1 hone, v_al us⟩, .bs (by simp [updσ]) (own_one ho'), by omega⟩
    rcases ho.2 with ⟨rfl, _⟩ | ⟨g3, cap, cur, rfl, f2, _⟩
    · cases hg'
    · cases hg'; exact f2
theorem RunsR.data {args : List D} {e : TypeId} {us : List Value} (hr : RunsR P p args e us) (hone : us.all Value.oneCell' = true) : Runs P p args (.sl 1 (us.map D.v) us.length none) := by
  refine ⟨hr.1, fun w S vs hg hS hlen hv => (hr.2 w S vs hg hS hlen hv).mono ?_⟩
  rintro e' w' ⟨v, rfl, hb, ho⟩
  refine ⟨v, rfl, hb, ?_⟩
  rcases ho.2 with ⟨rfl, h0⟩ | ⟨g, cap, cur, rfl, hg', hh, hn, hc, hs, ht⟩
  · obtain rfl := List.eq_nil_of_length_eq_zero h0
    exact .nil 1 none (fun k hk => by cases hk)
  · refine .sl g 0 cap us (by simp) hn hc (fun k hk => by cases hk) (.inr ⟨hg', (Array.getElem?_eq_some_iff.1 hh).1⟩) (by simp) (fun i u hu => ?_) (List.all_eq_true.1 hone) (v_al us).at_
    rw [Nat.zero_add, ho.cellAt i (by have := (List.getElem?_eq_some_iff.1 hu).1; omega)]
    exact hu
end
end Go.Proofs.YtkhgpnbhnipndaaGreatDoor.Am
end
