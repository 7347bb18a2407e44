/- What the law leans on, part 9: declarations of several texts of ours, in their order. -/
import Derived.Test.YtkhgpnbhnipndaaGreatDoorXFS7
import Derived.RangeFuncIn
import Derived.RangeFuncRecord
section
/-! Calls; all operations; regions; codes. -/
namespace Go.Proofs.YtkhgpnbhnipndaaGreatDoor.Am
open Go Go.RowKit
set_option linter.unusedVariables false
set_option linter.unusedSimpArgs false
/-- a function of the program with a body -/
def Pl (P : Program) (p : FuncId) : Prop := ∃ fn, P.funcs[p]? = some fn ∧ fn.body.isSome = true ∧ fn.name ≠ "runtime.NumGoroutine"
/-- a call, over memory and boxes -/
structure Hc (P : Program) (p : FuncId) (args : List V) (h : Hp) (n : Nat) (Q : V → Hp → Nat → Prop) : Prop where
  pl : Pl P p
  run : ∀ n₀ w₀ S₀ S σ fr w (vs : List Value), HR n₀ w₀ S₀ S σ h n fr w → (∀ p, p ∈ fr → ∃ l, p.lo = some l ∧ l ≤ n) → vs.length = args.length → (∀ (i : Nat) x u, args[i]? = some x → vs[i]? = some u → Vr w S σ x u) →
    Calls P p vs.toArray w fun e w' => ∃ r h' n' S' σ' v, e = .returned v ∧ Q r h' n' ∧ HR n₀ w₀ S₀ S' σ' h' n' fr w' ∧ Vr w' S' σ' r v ∧ n ≤ n'
theorem Hc.mono {P : Program} {p : FuncId} {args : List V} {h : Hp} {n : Nat} {Q Q' : V → Hp → Nat → Prop} (hc : Hc P p args h n Q) (hq : ∀ r h n, Q r h n → Q' r h n) : Hc P p args h n Q' :=
  ⟨hc.pl, fun n₀ w₀ S₀ S σ fr w vs H hl hlen hv => (hc.run n₀ w₀ S₀ S σ fr w vs H hl hlen hv).mono fun _ _ ⟨r, h', n', S', σ', v, h1, h2, h3⟩ => ⟨r, h', n', S', σ', v, h1, hq _ _ _ h2, h3⟩⟩
/-- a call that leaves all cells that are there as they are -/
structure HcB (P : Program) (p : FuncId) (args : List V) (h : Hp) (n : Nat) (Q : V → Hp → Nat → Prop) : Prop where
  pl : Pl P p
  run : ∀ n₀ w₀ S₀ S σ fr w (vs : List Value), HR n₀ w₀ S₀ S σ h n fr w → (∀ p, p ∈ fr → ∃ l, p.lo = some l ∧ l ≤ n) → vs.length = args.length → (∀ (i : Nat) x u, args[i]? = some x → vs[i]? = some u → Vr w S σ x u) →
    Calls P p vs.toArray w fun e w' => ∃ r h' n' S' σ' v, e = .returned v ∧ Q r h' n' ∧ HR n₀ w₀ S₀ S' σ' h' n' fr w' ∧ Vr w' S' σ' r v ∧ n ≤ n' ∧ Kp none w w'
/-- a call of yield: a round of the loop in box b -/
structure Yc (P : Program) (b : Nat) (args : List V) (h : Hp) (n : Nat) (Q : V → Hp → Nat → Prop) : Prop where
  run : ∀ n₀ w₀ S₀ S σ fr w (vs : List Value) (l : Nat), HR n₀ w₀ S₀ S σ h n fr w → (∀ p, p ∈ fr → ∃ l, p.lo = some l ∧ l ≤ n) → vs.length = args.length → (∀ (i : Nat) x u, args[i]? = some x → vs[i]? = some u → Vr w S σ x u) → σ b = some (.pointer (some ⟨l, 0, none⟩)) →
    ∃ r : Loop, w.heap[l]? = some (.loop r) ∧ vs.length = r.params.size ∧ RoundIn Fence.wide 0 P l r.fn ((r.params.zip vs.toArray).foldl (fun tmps (t, a) => tmps.setIfInBounds t a) r.tmps) r.assign r.body w fun e w' => ∃ r h' n' S' σ' v, e = .returned v ∧ Q r h' n' ∧ HR n₀ w₀ S₀ S' σ' h' n' fr w' ∧ Vr w' S' σ' r v ∧ n ≤ n'
section
variable (P : Program) (T : Tab)
def mm (b : Builtin) (x y : V) (K : V → Prop) : Prop :=
  match b, x, y with
  | .min, .d (.v (.int k a)), .d (.v (.int _ c)) => K (.imm (.int k (if c < a then c else a)))
  | .max, .d (.v (.int k a)), .d (.v (.int _ c)) => K (.imm (.int k (if a < c then c else a)))
  | _, _, _ => False
/-- a method, by its name -/
def lkM (t : TypeId) (nm : String) (K : FuncId → Prop) : Prop :=
  match T t with
  | none => False
  | some r => match r.ms.find? (fun q => q.1 == nm) with
    | some q => K q.2
    | none => False
def callP (c : Call) (s : St) (dst : Option Tmp) (K : St → Prop) : Prop :=
  match c.callee with
  | .builtin b => match b, c.args.toList, c.argTypes.toList with
    | .len, [x], [t] => lenP T t s.h (s.ev x) (fun v => K (s.put dst v))
    | .copy, [x, y], [t, _] => copyP T t (s.ev x) (s.ev y) s.h (fun v h => K (({ s with h } : St).put dst v))
    | .append, [x, y], [t, u] => chk (Nat.beq t u) <| appP T t (s.ev x) (s.ev y) s.h s.n (fun v h n => K (({ s with h, n } : St).put dst v))
    | b, [x, y], _ => mm b (s.ev x) (s.ev y) (fun v => K (s.put dst v))
    | _, _, _ => False
  | .value f => match s.ev f with
    | .fn p caps => Hc P p (c.args.toList.map s.ev ++ caps) s.h s.n (fun r h n => K (({ s with h, n } : St).put dst r))
    | .d (.fn p caps) => Hc P p (c.args.toList.map s.ev ++ caps.map .d) s.h s.n (fun r h n => K (({ s with h, n } : St).put dst r))
    | .yl b => Yc P b (c.args.toList.map s.ev) s.h s.n (fun r h n => K (({ s with h, n } : St).put dst r))
    | _ => False
  | .invoke f nm => match s.ev f with
    | .ifc t x => lkM T t nm fun p => Hc P p (x :: c.args.toList.map s.ev) s.h s.n (fun r h n => K (({ s with h, n } : St).put dst r))
    | .d (.ifc t x) => lkM T t nm fun p => Hc P p (.d x :: c.args.toList.map s.ev) s.h s.n (fun r h n => K (({ s with h, n } : St).put dst r))
    | _ => False
def nilP (x : V) (K : V → Prop) : Prop :=
  match x with
  | .pt b o => K (.pt b o)
  | .ep l o => K (.ep l o)
  | _ => False
def opP (o : Oper) (s : St) (K : St → Prop) : Prop :=
  match o.op with
  | .move x => K (s.put o.dst (s.ev x))
  | .assign x => K (s.put o.dst (s.ev x))
  | .pick c x y => pickP (s.ev c) (s.ev x) (s.ev y) (fun v => K (s.put o.dst v))
  | .alloc e => allocP T e s o.dst K
  | .box e x => boxP e (s.ev x) s o.dst K
  | .build t parts => match arrOf T t with | some p => buildAP T t p (parts.toList.map fun (i, x) => (i, s.ev x)) (fun v => K (s.put o.dst v)) | none => buildP T t (parts.toList.map fun (i, x) => (i, s.ev x)) (fun v => K (s.put o.dst v))
  | .buildSlice t len parts => bif Nat.beq len 0 && parts.toList.isEmpty then emptyP T t s.h s.n (fun v h n => K (({ s with h, n } : St).put o.dst v)) else buildSliceP T t len (parts.toList.map fun (i, x) => (i, s.ev x)) s.h s.n (fun v h n => K (({ s with h, n } : St).put o.dst v))
  | .load t x => loadP T t (s.ev x) s.h (fun v => K (s.put o.dst v))
  | .store t x y => storeP T t (s.ev x) (s.ev y) s.h (fun h => K (({ s with h } : St).put o.dst (.d .no)))
  | .binOp op t x y _ => bif isNilC y then ifN T op t (s.ev x) (fun v => K (s.put o.dst v)) else binN T op t (s.ev x) (s.ev y) (fun v => K (s.put o.dst v))
  | .makeInterface t x => mkIfP T t (s.ev x) (fun v => K (s.put o.dst v))
  | .unOp op _ x => unP op (s.ev x) (fun v => K (s.put o.dst v))
  | .convert t u x => convA T t u (s.ev x) s.h (fun v => K (s.put o.dst v))
  | .makeFunc (.func p) first c => chk (Nat.beq first.size 0) <| K (s.put o.dst (.fn p (c.toList.map s.ev)))
  | .makeSlice t x y => makeP T t (s.ev x) (s.ev y) s.h s.n (fun v h n => K (({ s with h, n } : St).put o.dst v))
  | .slice t x lo hi mx => sliceP T t (s.ev x) (lo.map s.ev) (hi.map s.ev) (mx.map s.ev) s.h s.n (fun v h n => K (({ s with h, n } : St).put o.dst v))
  | .fieldAddr t x i => fieldAddrP T t (s.ev x) i (fun v => K (s.put o.dst v))
  | .field t x i => fieldP T t (s.ev x) i (fun v => K (s.put o.dst v))
  | .indexAddr t x y => match arrOf T t with | some p => arrAP T p (s.ev x) (s.ev y) (fun v => K (s.put o.dst v)) | none => indexAddrP T t (s.ev x) (s.ev y) s.h (fun v => K (s.put o.dst v))
  | .index t x y => match arrOf T t with | some p => arrIx T p (s.ev x) (s.ev y) (fun v => K (s.put o.dst v)) | none => match T t with | some r => (match r.kind with | some .string => strIx (s.ev x) (s.ev y) (fun v => K (s.put o.dst v)) | _ => False) | none => False
  | .extract x i => extractP (s.ev x) i (fun v => K (s.put o.dst v))
  | .nilCheck x => nilP (s.ev x) (fun v => K (s.put o.dst v))
  | .makeMap _ none => makeMapP s.h s.n (fun v h n => K (({ s with h, n } : St).put o.dst v))
  | .lookup t x y ok => lookP T t (s.ev x) (s.ev y) ok s.h (fun v => K (s.put o.dst v))
  | .insert t m y v => mapUpP T t (s.ev m) (s.ev y) (s.ev v) s.h (fun h => K (({ s with h } : St).put o.dst (.d .no)))
  | .mapUpdate t m y v => mapUpP T t (s.ev m) (s.ev y) (s.ev v) s.h (fun h => K (({ s with h } : St).put o.dst (.d .no)))
  | .call c => callP P T c s o.dst K
  | _ => False
end
section
variable {n₀ : Nat} {w₀ w w' : World} {S₀ S S' : Nat → Prop} {σ σ' : Sg} {h : Hp} {n k : Nat} {fr : List Fr} {P : Program} {T : Tab} {F : Fence} {o : Oper} {s : St} {a : Act} {Q : Exit → Act → World → Prop} {K : St → Prop}
theorem wpIn_of_gr (hF : Free F) (hd : ∀ c, o.op ≠ .defer c) (H : SR n₀ w₀ S₀ S σ s fr a w) {e : Option TypeId} (hg : GrowR P n₀ w₀ S₀ o s fr a w K e) : o.wpIn F k P a w (Gd n₀ w₀ S₀ fr K) Q :=
  Oper.wpIn_mono (fun _ _ h => h.2) (hg.ok hF hd H)
theorem callFunc_run {p : FuncId} (hp : Pl P p) (args : Array Value) (w : World) : (callFunc p args).run P w = .ok (.enter p args) w := by
  obtain ⟨fn, h1, h2, h3⟩ := hp
  obtain ⟨c, hc⟩ := Option.isSome_iff_exists.1 h2
  simp [callFunc, h1, h3, hc]
theorem SR.caller (H : SR n₀ w₀ S₀ S σ s fr a w) : HR n₀ w₀ S₀ S σ s.h s.n (⟨s.t, a.tmps, some s.n, dsOf a.defers⟩ :: fr) w ∧ ∀ p, p ∈ (⟨s.t, a.tmps, some s.n, dsOf a.defers⟩ :: fr : List Fr) → ∃ l, p.lo = some l ∧ l ≤ s.n := by
  refine ⟨H.h.fr' (fun p hp i => ?_) rfl, fun p hp => ?_⟩
  · rcases List.mem_cons.1 hp with rfl | hp
    · refine (H.h.fr _ List.mem_cons_self i).mono (fun _ _ => rfl) (fun _ h => h) (fun b u hb => ?_)
      simp only [res] at hb ⊢
      by_cases hlt : b < s.n
      · rw [if_pos hlt]; exact hb
      · rw [(H.h.fresh b (by omega)).2] at hb; cases hb
    · exact H.h.fr p (List.mem_cons_of_mem _ hp) i
  · rcases List.mem_cons.1 hp with rfl | hp
    · exact ⟨s.n, rfl, Nat.le_refl _⟩
    · obtain ⟨l, h1, h2⟩ := H.lo p hp
      exact ⟨l, h1, Nat.le_trans h2 H.lon⟩
theorem uncaller {t : Nat → V} {v : Array Value} {l : Nat} {ds : List Nat} (H : HR n₀ w₀ S₀ S σ h n (⟨t, v, some l, ds⟩ :: fr) w) : HR n₀ w₀ S₀ S σ h n (⟨t, v, none, ds⟩ :: fr) w :=
  H.fr' (hd := rfl) fun p hp i => by
    rcases List.mem_cons.1 hp with rfl | hp
    · refine (H.fr _ List.mem_cons_self i).mono (fun _ _ => rfl) (fun _ h => h) (fun b u hb => ?_)
      simp only [res] at hb ⊢
      split at hb
      · exact hb
      · cases hb
    · exact H.fr p (List.mem_cons_of_mem _ hp) i
theorem hc_ok (hF : Free F) (H : SR n₀ w₀ S₀ S σ s fr a w) (hd : ∀ c, o.op ≠ .defer c) {p : FuncId} {args : List V} {vs : List Value} (hr : Pl P p → (execOp a.eval o).run P w = .ok (.enter p vs.toArray) w)
    (hlen : vs.length = args.length) (hv : ∀ (i : Nat) x u, args[i]? = some x → vs[i]? = some u → Vr w S σ x u) (hp : Hc P p args s.h s.n (fun r h n => K (({ s with h, n } : St).put o.dst r))) : o.wpIn F k P a w (Gd n₀ w₀ S₀ fr K) Q := by
  refine wp_of_run hF hd ?_
  rw [hr hp.pl]
  refine ⟨(fun h => by rw [hF.depth] at h; cases h), hF.calls ((hp.run n₀ w₀ S₀ S σ _ w vs H.caller.1 H.caller.2 hlen hv).mono ?_)⟩
  rintro e w' ⟨r, h', n', S', σ', v, rfl, hK, H', hx, hn⟩
  have HU := uncaller H'
  refine ⟨_, S', σ', hK, ?_, by rw [put_lo]; exact H.lo, by rw [put_lo, (put_hn _ _ _).2]; exact Nat.le_trans H.lon hn, by rw [put_size, put_N]; exact H.N, by rw [put_def]; exact H.d⟩
  rw [(put_hn _ _ _).1, (put_hn _ _ _).2]
  exact put_fr HU H.N hx o.dst h' n'
/-- a call of a function of the program by its name -/
def isCallC (o : Oper) : Bool := match o.op with
  | .call c => (match c.callee with | .value (.func _) => true | _ => false)
  | _ => false
def callK (P : Program) (o : Oper) (s : St) (K : St → Prop) : Prop :=
  match o.op with
  | .call c => (match c.callee with
    | .value (.func p) => HcB P p (c.args.toList.map s.ev) s.h s.n (fun r h n => K (({ s with h, n } : St).put o.dst r))
    | _ => False)
  | _ => False
theorem callK_ok (hF : Free F) (H : SR n₀ w₀ S₀ S σ s fr a w) (hp : callK P o s K) : o.wpIn F k P a w (fun a' w' => Kp none w w' ∧ Gd n₀ w₀ S₀ fr K a' w') Q := by
  unfold callK at hp
  split at hp
  · rename_i c ho
    split at hp
    · rename_i p hc
      have hd : ∀ c, o.op ≠ .defer c := fun c hc => by rw [ho] at hc; cases hc
      refine wp_of_run hF hd ?_
      have hrun : (execOp a.eval o).run P w = .ok (.enter p (c.args.toList.map a.eval).toArray) w := by
        have := callFunc_run hp.pl (c.args.map a.eval) w
        have e : (c.args.toList.map a.eval).toArray = c.args.map a.eval := by apply Array.ext'; simp
        rw [e]
        simp [execOp, ho, resolve, hc, Act.eval, Deferred.ofValue, invoke, this]
      rw [hrun]
      refine ⟨(fun h => by rw [hF.depth] at h; cases h), hF.calls ((hp.run n₀ w₀ S₀ S σ _ w (c.args.toList.map a.eval) H.caller.1 H.caller.2 (by simp) (fun i x u hx hu => ?_)).mono ?_)⟩
      · rw [List.getElem?_map] at hx hu
        cases e : c.args.toList[i]? with
        | none => rw [e] at hx; cases hx
        | some y => rw [e] at hx hu; cases hx; cases hu; exact H.ev y
      · rintro e w' ⟨r, h', n', S', σ', v, rfl, hK, H', hx, hn, hkp⟩
        have HU := uncaller H'
        refine ⟨hkp, _, S', σ', hK, ?_, by rw [put_lo]; exact H.lo, by rw [put_lo, (put_hn _ _ _).2]; exact Nat.le_trans H.lon hn, by rw [put_size, put_N]; exact H.N, by rw [put_def]; exact H.d⟩
        rw [(put_hn _ _ _).1, (put_hn _ _ _).2]
        exact put_fr HU H.N hx o.dst h' n'
    · exact hp.elim
  · exact hp.elim
theorem Free.round (hF : Free F) {l : Nat} {f : FuncId} {tmps : Array Value} {asg bd : Code} {R : Ending → World → Prop} {k' : Nat} (hr : RoundIn Fence.wide 0 P l f tmps asg bd w R) : RoundIn F k' P l f tmps asg bd w R := by
  rcases hF with rfl | ⟨l', rfl⟩
  · exact ⟨trivial, fun c cs _ => hr.2 c cs (room_wide _)⟩
  · exact ⟨trivial, fun c cs _ => hr.2 c cs (room_wide _)⟩
theorem yc_ok (hF : Free F) (H : SR n₀ w₀ S₀ S σ s fr a w) {c : Call} {f : Operand} {b : Nat} (ho : o.op = .call c) (hc : c.callee = .value f) (hb : s.ev f = .yl b) (hp : Yc P b (c.args.toList.map s.ev) s.h s.n (fun r h n => K (({ s with h, n } : St).put o.dst r))) : o.wpIn F k P a w (Gd n₀ w₀ S₀ fr K) Q := by
  have hf := H.ev f
  have hd : ∀ c, o.op ≠ .defer c := fun c hc => by rw [ho] at hc; cases hc
  rw [hb] at hf
  generalize hv : a.eval f = v at hf
  cases hf with
  | yl hσ =>
    rename_i l
    obtain ⟨r, h1, h2, h3⟩ := hp.run n₀ w₀ S₀ S σ _ w (c.args.toList.map a.eval) l H.caller.1 H.caller.2 (by simp) (fun i x u hx hu => by
      rw [List.getElem?_map] at hx hu
      cases e : c.args.toList[i]? with
      | none => rw [e] at hx; cases hx
      | some y => rw [e] at hx hu; cases hx; cases hu; exact H.ev y) hσ
    refine wp_of_run hF hd ?_
    have hy := run_yield (P := P) (args := c.args.map a.eval) h1 (by rw [← h2]; simp)
    have hrun : (execOp a.eval o).run P w = .ok (.round l r.fn ((r.params.zip (c.args.map a.eval)).foldl (fun tmps (t, a) => tmps.setIfInBounds t a) r.tmps) r.assign r.body) w := by
      simp [execOp, ho, resolve, hc, hv, Deferred.ofValue, invoke, hy]
    rw [hrun]
    have e0 : (c.args.toList.map a.eval).toArray = c.args.map a.eval := by apply Array.ext'; simp
    rw [e0] at h3
    refine ⟨(fun h => by rw [hF.depth] at h; cases h), (hF.round h3).mono ?_⟩
    rintro e w' ⟨r, h', n', S', σ', v, rfl, hK, H', hx, hn⟩
    have HU := uncaller H'
    refine ⟨_, S', σ', hK, ?_, by rw [put_lo]; exact H.lo, by rw [put_lo, (put_hn _ _ _).2]; exact Nat.le_trans H.lon hn, by rw [put_size, put_N]; exact H.N, by rw [put_def]; exact H.d⟩
    rw [(put_hn _ _ _).1, (put_hn _ _ _).2]
    exact put_fr HU H.N hx o.dst h' n'
theorem mm_ok (hF : Free F) (H : SR n₀ w₀ S₀ S σ s fr a w) {b : Builtin} {c : Call} {x y : Operand} (ho : o.op = .call c) (hc : c.callee = .builtin b) (ha : c.args = #[x, y]) (hp : mm b (s.ev x) (s.ev y) (fun v => K (s.put o.dst v))) : o.wpIn F k P a w (Gd n₀ w₀ S₀ fr K) Q := by
  have hx := H.ev x
  have hy := H.ev y
  have hd : ∀ c, o.op ≠ .defer c := fun c hc => by rw [ho] at hc; cases hc
  unfold mm at hp
  split at hp
  · rename_i k1 i k2 j hxi hyj
    rw [hxi] at hx
    rw [hyj] at hy
    generalize hv : a.eval x = v at hx
    generalize hu : a.eval y = u at hy
    cases hx with
    | d hx =>
      cases hx
      cases hy with
      | d hy =>
        cases hy
        exact (quiet_ok (fun W => by simp [execOp, ho, resolve, hc, ha, hv, hu, invoke, builtin, Builtin.min_, Builtin.min2]) (.d (.v _)) hp).ok hF H hd
  · rename_i k1 i k2 j hxi hyj
    rw [hxi] at hx
    rw [hyj] at hy
    generalize hv : a.eval x = v at hx
    generalize hu : a.eval y = u at hy
    cases hx with
    | d hx =>
      cases hx
      cases hy with
      | d hy =>
        cases hy
        exact (quiet_ok (fun W => by simp [execOp, ho, resolve, hc, ha, hv, hu, invoke, builtin, Builtin.max_, Builtin.max2]) (.d (.v _)) hp).ok hF H hd
  · exact hp.elim
theorem lkM_ok (hT : TOk P T) {t : TypeId} {nm : String} {K : FuncId → Prop} (h : lkM T t nm K) : ∃ p, (∀ (v : Value) (W : World), (method (P.types.size + Made.depth) t v nm).run P W = .ok (p, v) W) ∧ K p := by
  unfold lkM at h
  split at h
  · exact h.elim
  rename_i r hr
  split at h
  · rename_i q hq
    have hm := List.mem_of_find?_eq_some hq
    have hn := List.find?_some hq
    have hn : q.1 = nm := by simpa using hn
    subst hn
    exact ⟨q.2, hT.ms t r q.1 q.2 hr hm, h⟩
  · exact h.elim
theorem call_ok (hT : TOk P T) (hF : Free F) (H : SR n₀ w₀ S₀ S σ s fr a w) {c : Call} (ho : o.op = .call c) (hp : callP P T c s o.dst K) : o.wpIn F k P a w (Gd n₀ w₀ S₀ fr K) Q := by
  have hd : ∀ c, o.op ≠ .defer c := fun c hc => by rw [ho] at hc; cases hc
  unfold callP at hp
  split at hp
  · rename_i b hc
    split at hp
    · rename_i x t h1 h2
      have ha : c.args = #[x] := Array.ext' h1
      have ht : c.argTypes = #[t] := Array.ext' h2
      obtain ⟨m, hk, hr⟩ := len_ok (ty := o.type) hT H.h (H.ev x) hp
      exact (quiet_ok (fun W => by simp [execOp, ho, resolve, hc, ha, ht, invoke, builtin, hr]) (.d (.v _)) hk).ok hF H hd
    · rename_i x y t u h1 h2
      have ha : c.args = #[x, y] := Array.ext' h1
      have ht : c.argTypes = #[t, u] := Array.ext' h2
      obtain ⟨r, w', h', hk, hr, H'⟩ := copy_run (ty := o.type) (u := u) hT H.h (H.ev x) (H.ev y) hp
      exact val_ok (s := s) (n' := s.n) hF hd (x := .imm r) (v := r) (by simp [execOp, ho, resolve, hc, ha, ht, invoke, builtin, hr]) H' H.N H.lon H.lo H.d (.d (.v _)) hk
    · rename_i x y t u h1 h2
      have ha : c.args = #[x, y] := Array.ext' h1
      have ht : c.argTypes = #[t, u] := Array.ext' h2
      replace hp := chk_iff.1 hp
      obtain ⟨htu, hp⟩ := hp
      obtain rfl := Nat.eq_of_beq_eq_true htu
      obtain ⟨r, w', σ', h', n', x', hk, hr, H', hx', hn, _⟩ := app_run (ty := o.type) hT H.h (H.ev x) (H.ev y) hp
      exact val_ok hF hd (by simp [execOp, ho, resolve, hc, ha, ht, invoke, builtin, hr]) H' H.N (by have := H.lon; omega) H.lo H.d hx' hk
    · exact mm_ok hF H ho hc (Array.ext' (by assumption)) hp
    · exact hp.elim
  · rename_i f hc
    have hf := H.ev f
    split at hp
    · rename_i p caps hpf
      rw [hpf] at hf
      generalize hv : a.eval f = v at hf
      cases hf with
      | fn vs h1 h2 =>
        refine hc_ok hF H hd (vs := c.args.toList.map a.eval ++ vs) (fun hpl => ?_) (by simp [h1]) (fun i x u hx hu => ?_) hp
        · have := callFunc_run hpl (c.args.map a.eval ++ vs.toArray) w
          have e : (List.map a.eval c.args.toList ++ vs).toArray = c.args.map a.eval ++ vs.toArray := by apply Array.ext'; simp
          rw [e]
          simp [execOp, ho, resolve, hc, hv, Deferred.ofValue, invoke, this]
        · have h3 : Al (Vr w S σ) (c.args.toList.map s.ev) (c.args.toList.map a.eval) := by
            refine ⟨by simp, fun i x u hx hu => ?_⟩
            rw [List.getElem?_map] at hx hu
            cases e : c.args.toList[i]? with
            | none => rw [e] at hx; cases hx
            | some y => rw [e] at hx hu; cases hx; cases hu; exact H.ev y
          exact (h3.app ⟨h1, h2⟩).at_ i x u hx hu
    · rename_i p caps hpf
      rw [hpf] at hf
      generalize hv : a.eval f = v at hf
      cases hf with
      | d hf =>
        cases hf with
        | fn vs h1 h2 =>
          refine hc_ok hF H hd (vs := c.args.toList.map a.eval ++ vs) (fun hpl => ?_) (by simp [h1]) (fun i x u hx hu => ?_) hp
          · have := callFunc_run hpl (c.args.map a.eval ++ vs.toArray) w
            have e : (List.map a.eval c.args.toList ++ vs).toArray = c.args.map a.eval ++ vs.toArray := by apply Array.ext'; simp
            rw [e]
            simp [execOp, ho, resolve, hc, hv, Deferred.ofValue, invoke, this]
          · have h3 : Al (Vr w S σ) (c.args.toList.map s.ev) (c.args.toList.map a.eval) := by
              refine ⟨by simp, fun i x u hx hu => ?_⟩
              rw [List.getElem?_map] at hx hu
              cases e : c.args.toList[i]? with
              | none => rw [e] at hx; cases hx
              | some y => rw [e] at hx hu; cases hx; cases hu; exact H.ev y
            exact (h3.app (Al.map_d ⟨h1, h2⟩)).at_ i x u hx hu
    · rename_i b hpf
      exact yc_ok hF H ho hc hpf hp
    · exact hp.elim
  · rename_i f nm hc
    have hf := H.ev f
    have go : ∀ {t : TypeId} {x : V} {v : Value}, a.eval f = .iface t v → Vr w S σ x v → (lkM T t nm fun p => Hc P p (x :: c.args.toList.map s.ev) s.h s.n (fun r h n => K (({ s with h, n } : St).put o.dst r))) → o.wpIn F k P a w (Gd n₀ w₀ S₀ fr K) Q := by
      intro t x v hv hx hp
      obtain ⟨p, hm, hp⟩ := lkM_ok hT hp
      refine hc_ok hF H hd (vs := v :: c.args.toList.map a.eval) (fun hpl => ?_) (by simp) (fun i x' u hx' hu => ?_) hp
      · have := callFunc_run hpl (#[v] ++ c.args.map a.eval) w
        have e : (v :: c.args.toList.map a.eval).toArray = #[v] ++ c.args.map a.eval := by apply Array.ext'; simp
        rw [e]
        have ex : (#[Value.iface t v] ++ c.args.map a.eval).extract 1 (#[Value.iface t v] ++ c.args.map a.eval).size = c.args.map a.eval := by apply Array.ext'; simp [List.take_of_length_le]
        have e0 : (#[Value.iface t v] ++ c.args.map a.eval)[0]? = some (.iface t v) := by simp [Array.getElem?_append]
        have hr : (invoke (.fn (.method nm) #[]) (#[Value.iface t v] ++ c.args.map a.eval)).run P w = .ok (.enter p (#[v] ++ c.args.map a.eval)) w := by
          unfold invoke
          simp only [e0, ex]
          simp [callMethod, hm, this]
        simp [execOp, ho, resolve, hc, hv, hr]
      · cases i with
        | zero =>
          simp only [List.getElem?_cons_zero, Option.some.injEq] at hx' hu
          subst hx' hu
          exact hx
        | succ i =>
          rw [List.getElem?_cons_succ, List.getElem?_map] at hx' hu
          cases e : c.args.toList[i]? with
          | none => rw [e] at hx'; cases hx'
          | some y => rw [e] at hx' hu; cases hx'; cases hu; exact H.ev y
    split at hp
    · rename_i t x hxf
      rw [hxf] at hf
      generalize hv : a.eval f = v at hf
      cases hf with
      | ifc hx => exact go hv hx hp
    · rename_i t x hxf
      rw [hxf] at hf
      generalize hv : a.eval f = v at hf
      cases hf with
      | d hf =>
        cases hf with
        | ifc hx => exact go hv (.d hx) hp
    · exact hp.elim
theorem nil_ok (H : SR n₀ w₀ S₀ S σ s fr a w) {x : Operand} (ho : o.op = .nilCheck x) (hp : nilP (s.ev x) (fun v => K (s.put o.dst v))) : Qt P S σ o s a w K := by
  have hx := H.ev x
  unfold nilP at hp
  split at hp
  · rename_i b off hb
    rw [hb] at hx
    generalize hv : a.eval x = v at hx
    have hx' := hx
    cases hx with
    | pt u hu hg => exact quiet_ok (fun W => by simp [execOp, ho, hv]) hx' hp
  · rename_i l off hb
    rw [hb] at hx
    generalize hv : a.eval x = v at hx
    have hx' := hx
    cases hx with
    | ep g p us h1 h2 h3 h4 h5 => exact quiet_ok (fun W => by simp [execOp, ho, hv]) hx' hp
  · exact hp.elim
theorem lenq_ok (hT : TOk P T) (H : SR n₀ w₀ S₀ S σ s fr a w) {c : Call} (ho : o.op = .call c) (hc : c.callee = .builtin .len) (hp : callP P T c s o.dst K) : Qt P S σ o s a w K := by
  unfold callP at hp
  rw [hc] at hp
  dsimp only at hp
  split at hp
  · rename_i x t _ h1 h2
    have ha : c.args = #[x] := Array.ext' h1
    have ht : c.argTypes = #[t] := Array.ext' h2
    obtain ⟨m, hk, hr⟩ := len_ok (ty := o.type) hT H.h (H.ev x) hp
    exact quiet_ok (fun W => by simp [execOp, ho, resolve, hc, ha, ht, invoke, builtin, hr]) (.d (.v _)) hk
  · rename_i hb _ _; cases hb
  · rename_i hb _ _; cases hb
  · unfold mm at hp
    split at hp
    · rename_i _ hb _ _; simp_all
    · rename_i _ hb _ _; simp_all
    · exact hp.elim
  · exact hp.elim
theorem op_ok (hT : TOk P T) (hF : Free F) (H : SR n₀ w₀ S₀ S σ s fr a w) (hp : opP P T o s K) : o.wpIn F k P a w (Gd n₀ w₀ S₀ fr K) Q := by
  unfold opP at hp
  split at hp
  · rename_i x ho; exact (move_ok H (.inl ho) hp).ok hF H (by intro c hc; simp_all)
  · rename_i x ho; exact (move_ok H (.inr ho) hp).ok hF H (by intro c hc; simp_all)
  · rename_i c x y ho; exact (pick_ok H ho hp).ok hF H (by intro c hc; simp_all)
  · rename_i e ho; exact alloc_ok hT hF H ho hp
  · rename_i e x ho; exact box_ok hF H ho hp
  · rename_i t parts ho
    cases e : arrOf T t with
    | some p => rw [e] at hp; exact (buildA_ok hT H ho e hp).ok hF H (by intro c hc; simp_all)
    | none => rw [e] at hp; exact (build_ok hT H ho hp).ok hF H (by intro c hc; simp_all)
  · rename_i t len parts ho
    cases hc : (Nat.beq len 0 && parts.toList.isEmpty) with
    | false => rw [hc] at hp; exact wpIn_of_gr hF (fun c hc => by rw [ho] at hc; cases hc) H (buildSlice_gr hT H ho hp)
    | true =>
      rw [hc] at hp
      rw [Bool.and_eq_true] at hc
      obtain rfl := Nat.eq_of_beq_eq_true hc.1
      exact wpIn_of_gr hF (fun c hc => by rw [ho] at hc; cases hc) H (empty_gr hT H ho (List.isEmpty_iff.1 hc.2) hp)
  · rename_i t x ho; exact load_ok hT hF H ho hp
  · rename_i t x y ho; exact store_ok hT hF H ho hp
  · rename_i op t x y u ho
    cases hc : isNilC y with
    | true => rw [hc] at hp; exact (ifN_ok hT H ho hc hp).ok hF H (by intro c hc; simp_all)
    | false => rw [hc] at hp; exact (binN_ok hT H ho hp).ok hF H (by intro c hc; simp_all)
  · rename_i t x ho; exact (mkIf_ok hT H ho hp).ok hF H (by intro c hc; simp_all)
  · rename_i op t x ho; exact (unop_ok H ho hp).ok hF H (by intro c hc; simp_all)
  · rename_i t u x ho; exact (convA_q1 hT H ho hp).ok hF H (by intro c hc; simp_all)
  · rename_i p first c ho
    replace hp := chk_iff.1 hp
    have : first = #[] := Array.size_eq_zero_iff.1 (Nat.eq_of_beq_eq_true hp.1)
    subst this
    exact (makeFunc_ok H ho hp.2).ok hF H (by intro c hc; simp_all)
  · rename_i t x y ho; exact make_ok hT hF H ho hp
  · rename_i t x lo hi mx ho; exact slice_ok hT hF H ho hp
  · rename_i t x i ho; exact (fieldAddr_ok hT H ho hp).ok hF H (by intro c hc; simp_all)
  · rename_i t x i ho; exact (field_ok hT H ho hp).ok hF H (by intro c hc; simp_all)
  · rename_i t x y ho
    cases e : arrOf T t with
    | some p => rw [e] at hp; exact (arrA_ok hT H ho e hp).ok hF H (by intro c hc; simp_all)
    | none => rw [e] at hp; exact (indexAddr_ok hT H ho hp).ok hF H (by intro c hc; simp_all)
  · rename_i t x y ho
    cases e : arrOf T t with
    | some p => rw [e] at hp; exact (arrI_ok hT H ho e hp).ok hF H (by intro c hc; simp_all)
    | none => rw [e] at hp; exact (strIx_ok hT H ho hp).ok hF H (by intro c hc; simp_all)
  · rename_i x i ho; exact (extract_ok H ho hp).ok hF H (by intro c hc; simp_all)
  · rename_i x ho; exact (nil_ok H ho hp).ok hF H (by intro c hc; simp_all)
  · rename_i t ho; exact makeMap_ok hF H ho hp
  · rename_i t x y ok ho; exact look_ok hT hF H ho hp
  · rename_i t m y v ho; exact mapUp_ok hT hF H (.inl ho) hp
  · rename_i t m y v ho; exact mapUp_ok hT hF H (.inr ho) hp
  · rename_i c ho; exact call_ok hT hF H ho hp
  · exact hp.elim
end
end Go.Proofs.YtkhgpnbhnipndaaGreatDoor.Am
end
