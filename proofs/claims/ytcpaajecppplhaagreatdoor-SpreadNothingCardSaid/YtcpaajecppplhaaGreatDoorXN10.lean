/- What the law leans on, part 11: declarations of several texts of ours, in their order. -/
import Derived.Test.YtcpaajecppplhaaGreatDoorXN9
import Derived.RangeFuncIn
import Derived.RangeFuncRecord
section
/-! Calls; all operations; regions; codes. -/
namespace Go.Proofs.YtcpaajecppplhaaGreatDoor.Am
open Go Go.RowKit
set_option linter.unusedVariables false
set_option linter.unusedSimpArgs false
/-- a function of the program with a body -/
def Pl (P : Program) (p : FuncId) : Prop := ∃ fn, P.funcs[p]? = some fn ∧ fn.body.isSome = true ∧ fn.name ≠ "runtime.NumGoroutine"
/-- a call, over memory and boxes -/
structure Hc (P : Program) (p : FuncId) (args : List V) (h : Hp) (n : Nat) (Q : V → Hp → Nat → Prop) : Prop where
  pl : Pl P p
  run : ∀ n₀ w₀ S₀ S σ fr w (vs : List Value), HR n₀ w₀ S₀ S σ h n fr w → (∀ p, p ∈ fr → ∃ l, p.lo = some l ∧ l ≤ n) → vs.length = args.length → (∀ (i : Nat) x u, args[i]? = some x → vs[i]? = some u → Vr w S σ x u) →
    Calls P p vs.toArray w fun e w' => ∃ r h' n' S' σ' v, e = .returned v ∧ Q r h' n' ∧ HR n₀ w₀ S₀ S' σ' h' n' fr w' ∧ Vr w' S' σ' r v ∧ n ≤ n'
theorem Hc.mono {P : Program} {p : FuncId} {args : List V} {h : Hp} {n : Nat} {Q Q' : V → Hp → Nat → Prop} (hc : Hc P p args h n Q) (hq : ∀ r h n, Q r h n → Q' r h n) : Hc P p args h n Q' :=
  ⟨hc.pl, fun n₀ w₀ S₀ S σ fr w vs H hl hlen hv => (hc.run n₀ w₀ S₀ S σ fr w vs H hl hlen hv).mono fun _ _ ⟨r, h', n', S', σ', v, h1, h2, h3⟩ => ⟨r, h', n', S', σ', v, h1, hq _ _ _ h2, h3⟩⟩
/-- a call of yield: a round of the loop in box b -/
structure Yc (P : Program) (b : Nat) (args : List V) (h : Hp) (n : Nat) (Q : V → Hp → Nat → Prop) : Prop where
  run : ∀ n₀ w₀ S₀ S σ fr w (vs : List Value) (l : Nat), HR n₀ w₀ S₀ S σ h n fr w → (∀ p, p ∈ fr → ∃ l, p.lo = some l ∧ l ≤ n) → vs.length = args.length → (∀ (i : Nat) x u, args[i]? = some x → vs[i]? = some u → Vr w S σ x u) → σ b = some (.pointer (some ⟨l, 0, none⟩)) →
    ∃ r : Loop, w.heap[l]? = some (.loop r) ∧ vs.length = r.params.size ∧ RoundIn Fence.wide 0 P l r.fn ((r.params.zip vs.toArray).foldl (fun tmps (t, a) => tmps.setIfInBounds t a) r.tmps) r.assign r.body w fun e w' => ∃ r h' n' S' σ' v, e = .returned v ∧ Q r h' n' ∧ HR n₀ w₀ S₀ S' σ' h' n' fr w' ∧ Vr w' S' σ' r v ∧ n ≤ n'
section
variable (P : Program) (T : Tab)
def mm (b : Builtin) (x y : V) (K : V → Prop) : Prop :=
  match b, x, y with
  | .min, .d (.v (.int k a)), .d (.v (.int _ c)) => K (.imm (.int k (if c < a then c else a)))
  | .max, .d (.v (.int k a)), .d (.v (.int _ c)) => K (.imm (.int k (if a < c then c else a)))
  | _, _, _ => False
def callP (c : Call) (s : St) (dst : Option Tmp) (K : St → Prop) : Prop :=
  match c.callee with
  | .builtin b => match b, c.args.toList, c.argTypes.toList with
    | .len, [x], [t] => lenP T t s.h (s.ev x) (fun v => K (s.put dst v))
    | .append, [x, y], [t, u] => chk (Nat.beq t u) <| appP T t (s.ev x) (s.ev y) s.h s.n (fun v h n => K (({ s with h, n } : St).put dst v))
    | b, [x, y], _ => mm b (s.ev x) (s.ev y) (fun v => K (s.put dst v))
    | _, _, _ => False
  | .value f => match s.ev f with
    | .fn p caps => Hc P p (c.args.toList.map s.ev ++ caps) s.h s.n (fun r h n => K (({ s with h, n } : St).put dst r))
    | .d (.fn p caps) => Hc P p (c.args.toList.map s.ev ++ caps.map .d) s.h s.n (fun r h n => K (({ s with h, n } : St).put dst r))
    | .yl b => Yc P b (c.args.toList.map s.ev) s.h s.n (fun r h n => K (({ s with h, n } : St).put dst r))
    | _ => False
  | _ => False
def opP (o : Oper) (s : St) (K : St → Prop) : Prop :=
  match o.op with
  | .move x => K (s.put o.dst (s.ev x))
  | .assign x => K (s.put o.dst (s.ev x))
  | .pick c x y => pickP (s.ev c) (s.ev x) (s.ev y) (fun v => K (s.put o.dst v))
  | .alloc e => allocP T e s o.dst K
  | .box e x => boxP e (s.ev x) s o.dst K
  | .build t parts => buildP T t (parts.toList.map fun (i, x) => (i, s.ev x)) (fun v => K (s.put o.dst v))
  | .buildSlice t len parts => buildSliceP T t len (parts.toList.map fun (i, x) => (i, s.ev x)) s.h s.n (fun v h n => K (({ s with h, n } : St).put o.dst v))
  | .load t x => loadP T t (s.ev x) s.h (fun v => K (s.put o.dst v))
  | .store t x y => storeP T t (s.ev x) (s.ev y) s.h (fun h => K (({ s with h } : St).put o.dst (.d .no)))
  | .binOp op t x y _ => binP T op t (s.ev x) (s.ev y) (fun v => K (s.put o.dst v))
  | .unOp op _ x => unP op (s.ev x) (fun v => K (s.put o.dst v))
  | .convert t u x => convP T t u (s.ev x) (fun v => K (s.put o.dst v))
  | .makeFunc (.func p) first c => chk (Nat.beq first.size 0) <| K (s.put o.dst (.fn p (c.toList.map s.ev)))
  | .makeSlice t x y => makeP T t (s.ev x) (s.ev y) s.h s.n (fun v h n => K (({ s with h, n } : St).put o.dst v))
  | .slice t x lo hi mx => sliceP T t (s.ev x) (lo.map s.ev) (hi.map s.ev) (mx.map s.ev) s.h s.n (fun v h n => K (({ s with h, n } : St).put o.dst v))
  | .fieldAddr t x i => fieldAddrP T t (s.ev x) i (fun v => K (s.put o.dst v))
  | .field t x i => fieldP T t (s.ev x) i (fun v => K (s.put o.dst v))
  | .indexAddr t x y => indexAddrP T t (s.ev x) (s.ev y) s.h (fun v => K (s.put o.dst v))
  | .index t x y => match T t with | some r => (match r.kind with | some .string => strIx (s.ev x) (s.ev y) (fun v => K (s.put o.dst v)) | _ => False) | none => False
  | .extract x i => extractP (s.ev x) i (fun v => K (s.put o.dst v))
  | .call c => callP P T c s o.dst K
  | _ => False
end
section
variable {n₀ : Nat} {w₀ w w' : World} {S₀ S S' : Nat → Prop} {σ σ' : Sg} {h : Hp} {n k : Nat} {fr : List Fr} {P : Program} {T : Tab} {F : Fence} {o : Oper} {s : St} {a : Act} {Q : Exit → Act → World → Prop} {K : St → Prop}
theorem callFunc_run {p : FuncId} (hp : Pl P p) (args : Array Value) (w : World) : (callFunc p args).run P w = .ok (.enter p args) w := by
  obtain ⟨fn, h1, h2, h3⟩ := hp
  obtain ⟨c, hc⟩ := Option.isSome_iff_exists.1 h2
  simp [callFunc, h1, h3, hc]
theorem SR.caller (H : SR n₀ w₀ S₀ S σ s fr a w) : HR n₀ w₀ S₀ S σ s.h s.n (⟨s.t, a.tmps, some s.n, dsOf a.defers⟩ :: fr) w ∧ ∀ p, p ∈ (⟨s.t, a.tmps, some s.n, dsOf a.defers⟩ :: fr : List Fr) → ∃ l, p.lo = some l ∧ l ≤ s.n := by
  refine ⟨H.h.fr' (fun p hp i => ?_) rfl, fun p hp => ?_⟩
  · rcases List.mem_cons.1 hp with rfl | hp
    · refine (H.h.fr _ List.mem_cons_self i).mono (fun _ _ => rfl) (fun _ h => h) (fun b u hb => ?_)
      simp only [res] at hb ⊢
      by_cases hlt : b < s.n
      · rw [if_pos hlt]; exact hb
      · rw [(H.h.fresh b (by omega)).2] at hb; cases hb
    · exact H.h.fr p (List.mem_cons_of_mem _ hp) i
  · rcases List.mem_cons.1 hp with rfl | hp
    · exact ⟨s.n, rfl, Nat.le_refl _⟩
    · obtain ⟨l, h1, h2⟩ := H.lo p hp
      exact ⟨l, h1, Nat.le_trans h2 H.lon⟩
theorem uncaller {t : Nat → V} {v : Array Value} {l : Nat} {ds : List Nat} (H : HR n₀ w₀ S₀ S σ h n (⟨t, v, some l, ds⟩ :: fr) w) : HR n₀ w₀ S₀ S σ h n (⟨t, v, none, ds⟩ :: fr) w :=
  H.fr' (hd := rfl) fun p hp i => by
    rcases List.mem_cons.1 hp with rfl | hp
    · refine (H.fr _ List.mem_cons_self i).mono (fun _ _ => rfl) (fun _ h => h) (fun b u hb => ?_)
      simp only [res] at hb ⊢
      split at hb
      · exact hb
      · cases hb
    · exact H.fr p (List.mem_cons_of_mem _ hp) i
theorem hc_ok (hF : Free F) (H : SR n₀ w₀ S₀ S σ s fr a w) (hd : ∀ c, o.op ≠ .defer c) {p : FuncId} {args : List V} {vs : List Value} (hr : Pl P p → (execOp a.eval o).run P w = .ok (.enter p vs.toArray) w)
    (hlen : vs.length = args.length) (hv : ∀ (i : Nat) x u, args[i]? = some x → vs[i]? = some u → Vr w S σ x u) (hp : Hc P p args s.h s.n (fun r h n => K (({ s with h, n } : St).put o.dst r))) : o.wpIn F k P a w (Gd n₀ w₀ S₀ fr K) Q := by
  refine wp_of_run hF hd ?_
  rw [hr hp.pl]
  refine ⟨(fun h => by rw [hF.depth] at h; cases h), hF.calls ((hp.run n₀ w₀ S₀ S σ _ w vs H.caller.1 H.caller.2 hlen hv).mono ?_)⟩
  rintro e w' ⟨r, h', n', S', σ', v, rfl, hK, H', hx, hn⟩
  have HU := uncaller H'
  refine ⟨_, S', σ', hK, ?_, by rw [put_lo]; exact H.lo, by rw [put_lo, (put_hn _ _ _).2]; exact Nat.le_trans H.lon hn, by rw [put_size, put_N]; exact H.N, by rw [put_def]; exact H.d⟩
  rw [(put_hn _ _ _).1, (put_hn _ _ _).2]
  exact put_fr HU H.N hx o.dst h' n'
theorem Free.round (hF : Free F) {l : Nat} {f : FuncId} {tmps : Array Value} {asg bd : Code} {R : Ending → World → Prop} {k' : Nat} (hr : RoundIn Fence.wide 0 P l f tmps asg bd w R) : RoundIn F k' P l f tmps asg bd w R := by
  rcases hF with rfl | ⟨l', rfl⟩
  · exact ⟨trivial, fun c cs _ => hr.2 c cs (room_wide _)⟩
  · exact ⟨trivial, fun c cs _ => hr.2 c cs (room_wide _)⟩
theorem yc_ok (hF : Free F) (H : SR n₀ w₀ S₀ S σ s fr a w) {c : Call} {f : Operand} {b : Nat} (ho : o.op = .call c) (hc : c.callee = .value f) (hb : s.ev f = .yl b) (hp : Yc P b (c.args.toList.map s.ev) s.h s.n (fun r h n => K (({ s with h, n } : St).put o.dst r))) : o.wpIn F k P a w (Gd n₀ w₀ S₀ fr K) Q := by
  have hf := H.ev f
  have hd : ∀ c, o.op ≠ .defer c := fun c hc => by rw [ho] at hc; cases hc
  rw [hb] at hf
  generalize hv : a.eval f = v at hf
  cases hf with
  | yl hσ =>
    rename_i l
    obtain ⟨r, h1, h2, h3⟩ := hp.run n₀ w₀ S₀ S σ _ w (c.args.toList.map a.eval) l H.caller.1 H.caller.2 (by simp) (fun i x u hx hu => by
      rw [List.getElem?_map] at hx hu
      cases e : c.args.toList[i]? with
      | none => rw [e] at hx; cases hx
      | some y => rw [e] at hx hu; cases hx; cases hu; exact H.ev y) hσ
    refine wp_of_run hF hd ?_
    have hy := run_yield (P := P) (args := c.args.map a.eval) h1 (by rw [← h2]; simp)
    have hrun : (execOp a.eval o).run P w = .ok (.round l r.fn ((r.params.zip (c.args.map a.eval)).foldl (fun tmps (t, a) => tmps.setIfInBounds t a) r.tmps) r.assign r.body) w := by
      simp [execOp, ho, resolve, hc, hv, Deferred.ofValue, invoke, hy]
    rw [hrun]
    have e0 : (c.args.toList.map a.eval).toArray = c.args.map a.eval := by apply Array.ext'; simp
    rw [e0] at h3
    refine ⟨(fun h => by rw [hF.depth] at h; cases h), (hF.round h3).mono ?_⟩
    rintro e w' ⟨r, h', n', S', σ', v, rfl, hK, H', hx, hn⟩
    have HU := uncaller H'
    refine ⟨_, S', σ', hK, ?_, by rw [put_lo]; exact H.lo, by rw [put_lo, (put_hn _ _ _).2]; exact Nat.le_trans H.lon hn, by rw [put_size, put_N]; exact H.N, by rw [put_def]; exact H.d⟩
    rw [(put_hn _ _ _).1, (put_hn _ _ _).2]
    exact put_fr HU H.N hx o.dst h' n'
theorem mm_ok (hF : Free F) (H : SR n₀ w₀ S₀ S σ s fr a w) {b : Builtin} {c : Call} {x y : Operand} (ho : o.op = .call c) (hc : c.callee = .builtin b) (ha : c.args = #[x, y]) (hp : mm b (s.ev x) (s.ev y) (fun v => K (s.put o.dst v))) : o.wpIn F k P a w (Gd n₀ w₀ S₀ fr K) Q := by
  have hx := H.ev x
  have hy := H.ev y
  have hd : ∀ c, o.op ≠ .defer c := fun c hc => by rw [ho] at hc; cases hc
  unfold mm at hp
  split at hp
  · rename_i k1 i k2 j hxi hyj
    rw [hxi] at hx
    rw [hyj] at hy
    generalize hv : a.eval x = v at hx
    generalize hu : a.eval y = u at hy
    cases hx with
    | d hx =>
      cases hx
      cases hy with
      | d hy =>
        cases hy
        exact (quiet_ok (fun W => by simp [execOp, ho, resolve, hc, ha, hv, hu, invoke, builtin, Builtin.min_, Builtin.min2]) (.d (.v _)) hp).ok hF H hd
  · rename_i k1 i k2 j hxi hyj
    rw [hxi] at hx
    rw [hyj] at hy
    generalize hv : a.eval x = v at hx
    generalize hu : a.eval y = u at hy
    cases hx with
    | d hx =>
      cases hx
      cases hy with
      | d hy =>
        cases hy
        exact (quiet_ok (fun W => by simp [execOp, ho, resolve, hc, ha, hv, hu, invoke, builtin, Builtin.max_, Builtin.max2]) (.d (.v _)) hp).ok hF H hd
  · exact hp.elim
theorem call_ok (hT : TOk P T) (hF : Free F) (H : SR n₀ w₀ S₀ S σ s fr a w) {c : Call} (ho : o.op = .call c) (hp : callP P T c s o.dst K) : o.wpIn F k P a w (Gd n₀ w₀ S₀ fr K) Q := by
  have hd : ∀ c, o.op ≠ .defer c := fun c hc => by rw [ho] at hc; cases hc
  unfold callP at hp
  split at hp
  · rename_i b hc
    split at hp
    · rename_i x t h1 h2
      have ha : c.args = #[x] := Array.ext' h1
      have ht : c.argTypes = #[t] := Array.ext' h2
      obtain ⟨m, hk, hr⟩ := len_ok (ty := o.type) hT H.h (H.ev x) hp
      exact (quiet_ok (fun W => by simp [execOp, ho, resolve, hc, ha, ht, invoke, builtin, hr]) (.d (.v _)) hk).ok hF H hd
    · rename_i x y t u h1 h2
      have ha : c.args = #[x, y] := Array.ext' h1
      have ht : c.argTypes = #[t, u] := Array.ext' h2
      replace hp := chk_iff.1 hp
      obtain ⟨htu, hp⟩ := hp
      obtain rfl := Nat.eq_of_beq_eq_true htu
      obtain ⟨r, w', σ', h', hk, hr, H', hσ, hone⟩ := app_run (ty := o.type) hT H.h (H.ev x) (H.ev y) hp
      exact val_ok hF hd (by simp [execOp, ho, resolve, hc, ha, ht, invoke, builtin, hr]) H' H.N (by have := H.lon; omega) H.lo H.d (.bs hσ hone) hk
    · exact mm_ok hF H ho hc (Array.ext' (by assumption)) hp
    · exact hp.elim
  · rename_i f hc
    have hf := H.ev f
    split at hp
    · rename_i p caps hpf
      rw [hpf] at hf
      generalize hv : a.eval f = v at hf
      cases hf with
      | fn vs h1 h2 =>
        refine hc_ok hF H hd (vs := c.args.toList.map a.eval ++ vs) (fun hpl => ?_) (by simp [h1]) (fun i x u hx hu => ?_) hp
        · have := callFunc_run hpl (c.args.map a.eval ++ vs.toArray) w
          have e : (List.map a.eval c.args.toList ++ vs).toArray = c.args.map a.eval ++ vs.toArray := by apply Array.ext'; simp
          rw [e]
          simp [execOp, ho, resolve, hc, hv, Deferred.ofValue, invoke, this]
        · have h3 : Al (Vr w S σ) (c.args.toList.map s.ev) (c.args.toList.map a.eval) := by
            refine ⟨by simp, fun i x u hx hu => ?_⟩
            rw [List.getElem?_map] at hx hu
            cases e : c.args.toList[i]? with
            | none => rw [e] at hx; cases hx
            | some y => rw [e] at hx hu; cases hx; cases hu; exact H.ev y
          exact (h3.app ⟨h1, h2⟩).at_ i x u hx hu
    · rename_i p caps hpf
      rw [hpf] at hf
      generalize hv : a.eval f = v at hf
      cases hf with
      | d hf =>
        cases hf with
        | fn vs h1 h2 =>
          refine hc_ok hF H hd (vs := c.args.toList.map a.eval ++ vs) (fun hpl => ?_) (by simp [h1]) (fun i x u hx hu => ?_) hp
          · have := callFunc_run hpl (c.args.map a.eval ++ vs.toArray) w
            have e : (List.map a.eval c.args.toList ++ vs).toArray = c.args.map a.eval ++ vs.toArray := by apply Array.ext'; simp
            rw [e]
            simp [execOp, ho, resolve, hc, hv, Deferred.ofValue, invoke, this]
          · have h3 : Al (Vr w S σ) (c.args.toList.map s.ev) (c.args.toList.map a.eval) := by
              refine ⟨by simp, fun i x u hx hu => ?_⟩
              rw [List.getElem?_map] at hx hu
              cases e : c.args.toList[i]? with
              | none => rw [e] at hx; cases hx
              | some y => rw [e] at hx hu; cases hx; cases hu; exact H.ev y
            exact (h3.app (Al.map_d ⟨h1, h2⟩)).at_ i x u hx hu
    · rename_i b hpf
      exact yc_ok hF H ho hc hpf hp
    · exact hp.elim
  · exact hp.elim
theorem op_ok (hT : TOk P T) (hF : Free F) (H : SR n₀ w₀ S₀ S σ s fr a w) (hp : opP P T o s K) : o.wpIn F k P a w (Gd n₀ w₀ S₀ fr K) Q := by
  unfold opP at hp
  split at hp
  · rename_i x ho; exact (move_ok H (.inl ho) hp).ok hF H (by intro c hc; simp_all)
  · rename_i x ho; exact (move_ok H (.inr ho) hp).ok hF H (by intro c hc; simp_all)
  · rename_i c x y ho; exact (pick_ok H ho hp).ok hF H (by intro c hc; simp_all)
  · rename_i e ho; exact alloc_ok hT hF H ho hp
  · rename_i e x ho; exact box_ok hF H ho hp
  · rename_i t parts ho; exact (build_ok hT H ho hp).ok hF H (by intro c hc; simp_all)
  · rename_i t len parts ho; exact buildSlice_ok hT hF H ho hp
  · rename_i t x ho; exact load_ok hT hF H ho hp
  · rename_i t x y ho; exact store_ok hT hF H ho hp
  · rename_i op t x y u ho; exact (binop_ok hT H ho hp).ok hF H (by intro c hc; simp_all)
  · rename_i op t x ho; exact (unop_ok H ho hp).ok hF H (by intro c hc; simp_all)
  · rename_i t u x ho; exact (conv_ok hT H ho hp).ok hF H (by intro c hc; simp_all)
  · rename_i p first c ho
    replace hp := chk_iff.1 hp
    have : first = #[] := Array.size_eq_zero_iff.1 (Nat.eq_of_beq_eq_true hp.1)
    subst this
    exact (makeFunc_ok H ho hp.2).ok hF H (by intro c hc; simp_all)
  · rename_i t x y ho; exact make_ok hT hF H ho hp
  · rename_i t x lo hi mx ho; exact (slice_ok hT H ho hp).ok hF H (by intro c hc; simp_all)
  · rename_i t x i ho; exact (fieldAddr_ok hT H ho hp).ok hF H (by intro c hc; simp_all)
  · rename_i t x i ho; exact (field_ok hT H ho hp).ok hF H (by intro c hc; simp_all)
  · rename_i t x y ho; exact (indexAddr_ok hT H ho hp).ok hF H (by intro c hc; simp_all)
  · rename_i t x y ho; exact (strIx_ok hT H ho hp).ok hF H (by intro c hc; simp_all)
  · rename_i x i ho; exact (extract_ok H ho hp).ok hF H (by intro c hc; simp_all)
  · rename_i c ho; exact call_ok hT hF H ho hp
  · exact hp.elim
end
end Go.Proofs.YtcpaajecppplhaaGreatDoor.Am
end
section
/-! Regions and codes. -/
namespace Go.Proofs.YtcpaajecppplhaaGreatDoor.Am
open Go Go.RowKit
set_option linter.unusedVariables false
set_option linter.unusedSimpArgs false
/-- in which order a region that draws its order is looked at: what yields in whatever world first, else all that may come up -/
inductive Plan where
  | done
  | first (j : Nat) (p : Plan)
  | alt (j : Nat) (p q : Plan)
  | nil
def Plan.js : Plan → List Nat
  | .alt j _ q => j :: q.js
  | _ => []
def isQ (o : Oper) : Bool :=
  match o.op with
  | .move _ | .assign _ | .pick .. | .build .. | .binOp .. | .unOp .. | .convert .. | .slice .. | .fieldAddr .. | .field .. | .indexAddr .. | .index .. | .extract .. | .makeFunc .. => true
  | _ => false
def okPlan (ops : Array Oper) : Plan → Array Bool → Nat → Bool
  | .done, li, _ => (Region.ready .any ops li).isEmpty
  | .first j p, li, f + 1 => Region.noSelect ops && Region.free .any ops li j && (Region.ready .any ops li).contains j && ((ops[j]?).map isQ).getD false && okPlan ops p (li.setIfInBounds j true) f
  | .alt j p q, li, f + 1 => (Region.ready .any ops li == j :: q.js) && okPlan ops p (li.setIfInBounds j true) f && alts q li f
  | _, _, _ => false
where alts : Plan → Array Bool → Nat → Bool
  | .alt j p q, li, f => okPlan ops p (li.setIfInBounds j true) f && alts q li f
  | _, _, _ => true
abbrev Plans := List (Nat × Plan)
def Plans.get : Plans → Nat → Plan
  | [], _ => .nil
  | (i, p) :: l, j => bif Nat.beq i j then p else Plans.get l j
section
variable (P : Program) (T : Tab) (rd : Bool) (pl : Plans)
/-- an operation with its guard -/
def grdP (ops : List Oper) (o : Oper) (s : St) (A B : Prop) : Prop :=
  match o.guard with
  | none => A
  | some (j, want) => match (ops[j]?).bind (·.dst) with
    | none => False
    | some t => chk (Nat.blt t s.N) <| match s.t t with
      | .d (.v (.bool b)) => (b = want → A) ∧ (b ≠ want → B)
      | .d (.v (.tuple _)) => B
      | _ => False
def stepP (ops : List Oper) (o : Oper) (s : St) (K : St → Prop) : Prop := grdP ops o s (opP P T o s K) (K (s.put o.dst (.imm undef)))
def regP (ops : List Oper) : List Oper → St → (St → Prop) → Prop
  | [], s, K => K s
  | o :: l, s, K => stepP P T ops o s (fun s => regP ops l s K)
def planP (ops : List Oper) : Plan → St → (St → Prop) → Prop
  | .done, s, K => K s
  | .nil, _, _ => True
  | .first j p, s, K => chk (!rd) <| match ops[j]? with | none => False | some o => stepP P T ops o s (fun s => planP ops p s K)
  | .alt j p q, s, K => (match ops[j]? with | none => False | some o => stepP P T ops o s (fun s => planP ops p s K)) ∧ planP ops q s K
def condP (x : V) (A B : Prop) : Prop :=
  match x with
  | .d (.v (.bool b)) => (b = true → A) ∧ (b = false → B)
  | _ => False
/-- what is known may be told otherwise, or forgotten -/
structure Wk (s s' : St) : Prop where
  tol : ∀ n₀ w₀ S₀ S σ fr a w, SR n₀ w₀ S₀ S σ s fr a w → ∃ S' σ', SR n₀ w₀ S₀ S' σ' s' fr a w
def loopP (B : St → (Exit → St → Prop) → Prop) : Nat → St → (Exit → St → Prop) → Prop
  | 0, _, _ => False
  | n + 1, s, Q => ∃ s', Wk s s' ∧ B s' (fun e s => match e with | .normal => loopP B n s Q | e => Q e s)
/-- a range over a function, whose loop is box s.n -/
def rngR (b : Nat) (s : St) (Q : Exit → St → Prop) (_ : V) (h : Hp) (n : Nat) : Prop :=
  match h b with
  | some (.lp st pend _ _ _ _ _) => chk (!(st == .busy)) <| match pend with
    | none => Q .normal { s with h := kil h b, n := n }
    | some .ret => Q .ret { s with h := kil h b, n := n }
    | some (.exit i) => Q (.exit i) { s with h := kil h b, n := n }
    | some (.goto i) => Q (.goto i) { s with h := kil h b, n := n }
    | _ => False
  | _ => False
def rngP (g : V) (ps : Array Tmp) (asg bd : Code) (s : St) (Q : Exit → St → Prop) : Prop :=
  match g with
  | .fn p caps => Hc P p (.yl s.n :: caps) (upd s.h s.n (.lp .ready none s.t s.N ps asg bd)) (s.n + 1) (rngR s.n s Q)
  | .d (.fn p caps) => Hc P p (.yl s.n :: caps.map .d) (upd s.h s.n (.lp .ready none s.t s.N ps asg bd)) (s.n + 1) (rngR s.n s Q)
  | _ => False
def wpP : Code → St → (Exit → St → Prop) → Prop
  | .skip, s, Q => Q .normal s
  | .label _, s, Q => Q .normal s
  | .ret, s, Q => Q .ret s
  | .exit i, s, Q => Q (.exit i) s
  | .goto i, s, Q => Q (.goto i) s
  | .region i ops draw, s, Q => match draw with
    | false => regP P T ops.toList ops.toList s (Q .normal)
    | true => okPlan ops (pl.get i) (Array.replicate ops.size false) ops.size = true ∧ ∃ s₁, planP P T rd ops.toList (pl.get i) s (fun s' => Wk s' s₁) ∧ Q .normal s₁
  | .seq c d, s, Q => wpP c s (fun e s => match e with | .normal => wpP d s Q | e => Q e s)
  | .cond x c d, s, Q => ∃ s', Wk s s' ∧ condP (s'.ev x) (wpP c s' Q) (wpP d s' Q)
  | .block i c, s, Q => wpP c s (fun e s => match e with | .exit j => (bif Nat.beq j i then Q .normal s else Q (.exit j) s) | e => Q e s)
  | .loop c, s, Q => ∃ n, loopP (wpP c) n s Q
  | .rangeFunc g ps asg bd, s, Q => chk (!rd) (rngP P (s.ev g) ps asg bd s Q)
  | _, _, _ => False
end
section
variable {n₀ : Nat} {w₀ w w' : World} {S₀ S S' : Nat → Prop} {σ σ' : Sg} {h : Hp} {n k : Nat} {fr : List Fr} {P : Program} {T : Tab} {F : Fence} {o : Oper} {s : St} {a : Act} {K : St → Prop} {rd : Bool} {pl : Plans}
/-- exits: some state of which Q holds -/
def Gx (n₀ : Nat) (w₀ : World) (S₀ : Nat → Prop) (fr : List Fr) (Q : Exit → St → Prop) (e : Exit) (a : Act) (w : World) : Prop := Gd n₀ w₀ S₀ fr (Q e) a w ∧ (match e with | .panic _ | .outgrown => False | _ => True)
theorem op_qt (hT : TOk P T) (H : SR n₀ w₀ S₀ S σ s fr a w) (hq : isQ o = true) (hp : opP P T o s K) : Qt P S σ o s a w K := by
  unfold opP at hp
  unfold isQ at hq
  split at hp
  · rename_i x ho; exact move_ok H (.inl ho) hp
  · rename_i x ho; exact move_ok H (.inr ho) hp
  · rename_i c x y ho; exact pick_ok H ho hp
  · rename_i e ho; rw [ho] at hq; cases hq
  · rename_i e x ho; rw [ho] at hq; cases hq
  · rename_i t parts ho; exact build_ok hT H ho hp
  · rename_i t len parts ho; rw [ho] at hq; cases hq
  · rename_i t x ho; rw [ho] at hq; cases hq
  · rename_i t x y ho; rw [ho] at hq; cases hq
  · rename_i op t x y u ho; exact binop_ok hT H ho hp
  · rename_i op t x ho; exact unop_ok H ho hp
  · rename_i t u x ho; exact conv_ok hT H ho hp
  · rename_i p first c ho
    replace hp := chk_iff.1 hp
    have : first = #[] := Array.size_eq_zero_iff.1 (Nat.eq_of_beq_eq_true hp.1)
    subst this
    exact makeFunc_ok H ho hp.2
  · rename_i t x y ho; rw [ho] at hq; cases hq
  · rename_i t x lo hi mx ho; exact slice_ok hT H ho hp
  · rename_i t x i ho; exact fieldAddr_ok hT H ho hp
  · rename_i t x i ho; exact field_ok hT H ho hp
  · rename_i t x y ho; exact indexAddr_ok hT H ho hp
  · rename_i t x y ho; exact strIx_ok hT H ho hp
  · rename_i x i ho; exact extract_ok H ho hp
  · rename_i c ho; rw [ho] at hq; cases hq
  · exact hp.elim
theorem q_about (hq : isQ o = true) (w : World) (ρ : Operand → Value) : o.about P w ρ = none := by
  unfold isQ at hq
  unfold Oper.about
  cases ho : o.op <;> rw [ho] at hq <;> first | rfl | cases hq
theorem grd_ok (H : SR n₀ w₀ S₀ S σ s fr a w) {ops : Array Oper} {A B : Prop} (hp : grdP ops.toList o s A B) : (Region.wanted o (yielded ops a.tmps) = true → A) ∧ (Region.wanted o (yielded ops a.tmps) = false → B) := by
  unfold grdP at hp
  unfold Region.wanted
  split at hp
  · rename_i hg
    rw [hg]
    exact ⟨fun _ => hp, fun h => by cases h⟩
  · rename_i j want hg
    rw [hg]
    split at hp
    · exact hp.elim
    · rename_i t ht
      replace hp := chk_iff.1 hp
      obtain ⟨hlt, hp⟩ := hp
      have hlt' : t < a.tmps.size := by rw [H.N]; rw [Nat.blt_eq] at hlt; exact hlt
      have hx := H.h.fr _ List.mem_cons_self t
      have hy : yielded ops a.tmps j = match a.tmps.getD t undef with | .bool b => some b | _ => none := by
        unfold yielded
        rw [Array.getElem?_toList] at ht
        rw [ht]
        simp only [Option.bind_some, Array.getElem?_eq_getElem hlt', Array.getD_eq_getD_getElem?, Option.getD_some]
        cases a.tmps[t] <;> rfl
      split at hp
      · rename_i b hb
        simp only [hb] at hx
        generalize hv : a.tmps.getD t undef = v at hx hy
        cases hx with
        | d hx =>
          cases hx
          simp only [hy]
          constructor
          · intro h; exact hp.1 (by simpa using h)
          · intro h; exact hp.2 (by simpa using h)
      · rename_i vs hb
        simp only [hb] at hx
        generalize hv : a.tmps.getD t undef = v at hx hy
        cases hx with
        | d hx =>
          cases hx
          simp only [hy]
          exact ⟨fun h => by simp at h, fun _ => hp⟩
      · exact hp.elim
theorem skip_put (H : SR n₀ w₀ S₀ S σ s fr a w) (dst : Option Tmp) : SR n₀ w₀ S₀ S σ (s.put dst (.imm undef)) fr (a.put dst undef) w := by
  refine ⟨?_, by rw [put_lo]; exact H.lo, by rw [put_lo, (put_hn _ _ _).2]; exact H.lon, by rw [put_size, put_N]; exact H.N, by rw [put_def]; exact H.d⟩
  rw [(put_hn _ _ _).1, (put_hn _ _ _).2]
  exact put_fr H.h H.N (.d (.v undef)) dst s.h s.n
theorem step_ok (hT : TOk P T) (hF : Free F) (H : SR n₀ w₀ S₀ S σ s fr a w) {ops : Array Oper} {i : Nat} {Q : Exit → Act → World → Prop} (ho : ops[i]? = some o) (hp : stepP P T ops.toList o s K) : wpOpIn F k P ops Q i (Gd n₀ w₀ S₀ fr K) a w := by
  unfold wpOpIn
  simp only [ho]
  obtain ⟨h1, h2⟩ := grd_ok H hp
  split
  · rename_i hw
    exact op_ok hT hF H (h1 hw)
  · rename_i hw
    exact ⟨fun f _ => hF.fn f, _, S, σ, h2 (by simpa using hw), skip_put H o.dst⟩
theorem reg_ok (hT : TOk P T) (hF : Free F) {ops : Array Oper} {Q : Exit → Act → World → Prop} (hQ : ∀ a w, Gd n₀ w₀ S₀ fr K a w → Q .normal a w) : ∀ (l : List Oper) (i : Nat) (s : St) (S : Nat → Prop) (σ : Sg) (a : Act) (w : World), ops.toList.drop i = l → SR n₀ w₀ S₀ S σ s fr a w → regP P T ops.toList l s K →
    wpOpsIn F k P ops Q (List.range' i l.length) a w
  | [], i, s, S, σ, a, w, _, H, hp => hQ a w ⟨s, S, σ, hp, H⟩
  | o :: l, i, s, S, σ, a, w, hl, H, hp => by
    have ho : ops[i]? = some o := by
      have := congrArg (·[0]?) hl
      simp only [List.getElem?_drop, Nat.add_zero, List.getElem?_cons_zero] at this
      simpa using this
    rw [List.length_cons, List.range'_succ, wpOpsIn_cons]
    refine wpOpIn_mono ?_ (step_ok hT hF H ho hp)
    rintro a' w' ⟨s', S', σ', hk, H'⟩
    refine reg_ok hT hF hQ l (i + 1) s' S' σ' a' w' ?_ H' hk
    rw [← List.tail_drop, hl]
    rfl
theorem plan_ok (hT : TOk P T) (hF : Free F) (hrd : rd = false → F.round = none) {ops : Array Oper} {Q : Exit → Act → World → Prop} (hQ : ∀ a w, Gd n₀ w₀ S₀ fr K a w → Q .normal a w) (hQp : ∀ c a w, ¬ Q (.panic c) a w) :
    ∀ (p : Plan), (∀ (li : Array Bool) (f : Nat) (s : St) (S : Nat → Prop) (σ : Sg) (a : Act) (w : World), okPlan ops p li f = true → SR n₀ w₀ S₀ S σ s fr a w → planP P T rd ops.toList p s K → wpAnyIn F k P .any ops Q f li a w) ∧
      (∀ (li : Array Bool) (f : Nat) (s : St) (S : Nat → Prop) (σ : Sg) (a : Act) (w : World), okPlan.alts ops p li f = true → SR n₀ w₀ S₀ S σ s fr a w → planP P T rd ops.toList p s K → ∀ j, j ∈ p.js → wpOpIn F k P ops Q j (wpAnyIn F k P .any ops Q f (li.setIfInBounds j true)) a w)
  | .done => ⟨fun li f s S σ a w hok H hp => wpAnyIn_done (by simpa [okPlan] using hok) (hQ a w ⟨s, S, σ, hp, H⟩) f, fun _ _ _ _ _ _ _ _ _ _ j hj => by simp [Plan.js] at hj⟩
  | .nil => ⟨fun li f s S σ a w hok H hp => by simp [okPlan] at hok, fun _ _ _ _ _ _ _ _ _ _ j hj => by simp [Plan.js] at hj⟩
  | .first j p => by
    refine ⟨fun li f s S σ a w hok H hp => ?_, fun _ _ _ _ _ _ _ _ _ _ j hj => by simp [Plan.js] at hj⟩
    cases f with
    | zero => simp [okPlan] at hok
    | succ f =>
      simp only [okPlan, Bool.and_eq_true] at hok
      obtain ⟨⟨⟨⟨k1, k2⟩, k3⟩, k4⟩, k5⟩ := hok
      replace hp := chk_iff.1 hp
      obtain ⟨hr, hp⟩ := hp
      have hr : rd = false := by simpa using hr
      split at hp
      · exact hp.elim
      · rename_i o ho
        have ho' : ops[j]? = some o := by simpa using ho
        have hq : isQ o = true := by rw [ho'] at k4; simpa using k4
        obtain ⟨h1, h2⟩ := grd_ok H hp
        cases hw : Region.wanted o (yielded ops a.tmps) with
        | true =>
          obtain ⟨v, x, e1, e2, e3⟩ := op_qt hT H hq (h1 hw)
          refine wpAnyIn_take (v := v) (hrd hr) ho' k1 k2 k3 (fun c a w h => absurd h (hQp c _ w)) ⟨.inl ⟨hw, e1⟩, fun w => q_about hq w _⟩ ((plan_ok hT hF hrd hQ hQp p).1 _ f (s.put o.dst x) S σ _ w k5 ?_ e3)
          refine ⟨?_, by rw [put_lo]; exact H.lo, by rw [put_lo, (put_hn _ _ _).2]; exact H.lon, by rw [put_size, put_N]; exact H.N, by rw [put_def]; exact H.d⟩
          rw [(put_hn _ _ _).1, (put_hn _ _ _).2]
          exact put_fr H.h H.N e2 o.dst s.h s.n
        | false =>
          exact wpAnyIn_take (v := undef) (hrd hr) ho' k1 k2 k3 (fun c a w h => absurd h (hQp c _ w)) ⟨.inr ⟨hw, rfl⟩, fun w => q_about hq w _⟩ ((plan_ok hT hF hrd hQ hQp p).1 _ f (s.put o.dst (.imm undef)) S σ _ w k5 (skip_put H o.dst) (h2 hw))
  | .alt j p q => by
    have step : ∀ (li : Array Bool) (f : Nat) (s : St) (S : Nat → Prop) (σ : Sg) (a : Act) (w : World), okPlan ops p (li.setIfInBounds j true) f = true → SR n₀ w₀ S₀ S σ s fr a w → (match ops.toList[j]? with | none => False | some o => stepP P T ops.toList o s (fun s => planP P T rd ops.toList p s K)) →
        wpOpIn F k P ops Q j (wpAnyIn F k P .any ops Q f (li.setIfInBounds j true)) a w := by
      intro li f s S σ a w hok H hp
      split at hp
      · exact hp.elim
      · rename_i o ho
        refine wpOpIn_mono ?_ (step_ok hT hF H (by simpa using ho) hp)
        rintro a' w' ⟨s', S', σ', hk, H'⟩
        exact (plan_ok hT hF hrd hQ hQp p).1 _ f s' S' σ' a' w' hok H' hk
    refine ⟨fun li f s S σ a w hok H hp => ?_, fun li f s S σ a w hok H hp i hi => ?_⟩
    · cases f with
      | zero => simp [okPlan] at hok
      | succ f =>
        simp only [okPlan, Bool.and_eq_true, beq_iff_eq] at hok
        obtain ⟨⟨k1, k2⟩, k3⟩ := hok
        refine wpAnyIn_all k1 (by simp) fun i hi => ?_
        rcases List.mem_cons.1 hi with rfl | hi
        · exact step li f s S σ a w k2 H hp.1
        · exact (plan_ok hT hF hrd hQ hQp q).2 li f s S σ a w k3 H hp.2 i hi
    · simp only [okPlan.alts, Bool.and_eq_true] at hok
      rcases List.mem_cons.1 hi with rfl | hi
      · exact step li f s S σ a w hok.1 H hp.1
      · exact (plan_ok hT hF hrd hQ hQp q).2 li f s S σ a w hok.2 H hp.2 i hi
theorem least {p : Nat → Prop} (h : ∃ n, p n) : ∃ n, p n ∧ ∀ m, m < n → ¬ p m := by
  obtain ⟨n, hn⟩ := h
  induction n using Nat.strongRecOn with
  | _ n ih =>
    by_cases hm : ∃ m, m < n ∧ p m
    · obtain ⟨m, h1, h2⟩ := hm
      exact ih m h1 h2
    · exact ⟨n, hn, fun m h1 h2 => hm ⟨m, h1, h2⟩⟩
/-- a loop's record, and the block of its rounds' deferred calls, are laid -/
theorem HR.newLp (H : HR n₀ w₀ S₀ S σ h n (⟨s.t, a.tmps, none, dsOf a.defers⟩ :: fr) w) (hN : a.tmps.size = s.N) {ps : Array Tmp} {asg bd : Code} {fn : FuncId} {l : Option Nat} (hl : l = some n) :
    HR n₀ w₀ S₀ S (updσ σ n (.pointer (some ⟨w.heap.size + 1, 0, none⟩))) (upd h n (.lp .ready none s.t s.N ps asg bd)) (n + 1)
      (⟨fun i => if i = 0 then .yl n else .d .no, #[.func (.yield (w.heap.size + 1)) #[] #[]], some (n + 1), []⟩ :: ⟨s.t, a.tmps, l, w.heap.size :: dsOf a.defers⟩ :: fr)
      ((w.alloc (.deferred (some []))).alloc (.loop { state := .ready, pending := none, fn, tmps := a.tmps, params := ps, assign := asg, body := bd, defers := w.heap.size })) := by
  subst hl
  obtain ⟨w1, hw1⟩ : ∃ w1, w1 = w.alloc (.deferred (some [])) := ⟨_, rfl⟩
  rw [← hw1]
  have hsz : w1.heap.size = w.heap.size + 1 := by rw [hw1]; simp
  have hold : ∀ k, k < w.heap.size → w1.heap[k]? = w.heap[k]? := fun k hk => by rw [hw1]; exact ha_old w _ hk
  have H1 : HR n₀ w₀ S₀ S σ h n (⟨s.t, a.tmps, none, dsOf a.defers⟩ :: fr) w1 := by
    refine H.to ((by rw [hw1]; exact (Below.refl n₀ w).alloc H.size _) : Below n₀ w w1) (fun g hg => hold g (H.sS g hg)) (fun _ h => h) (fun _ _ h => h) (fun g hg => by have := H.sS g hg; omega) H.s0 (fun b o hb => (H.bx b o hb).mono (fun g hg => hold g (H.sS g hg)) (fun _ h => h) (fun _ _ h => h) (fun hl u g hu hg => hold g (H.row_lt hb hl hu hg).2)) H.sep H.un H.fresh (fun d _ d2 d3 d4 => ⟨hold d (Array.getElem?_eq_some_iff.1 d2).1, d3, d4⟩)
  have hD : w1.heap[w.heap.size]? = some (.deferred (some [])) := by rw [hw1]; exact World.alloc_heap_new w _
  obtain ⟨w2, hw2⟩ : ∃ w2, w2 = w1.alloc (.loop { state := .ready, pending := none, fn, tmps := a.tmps, params := ps, assign := asg, body := bd, defers := w.heap.size }) := ⟨_, rfl⟩
  rw [← hw2]
  have hL : w2.heap[w.heap.size + 1]? = some (.loop { state := .ready, pending := none, fn, tmps := a.tmps, params := ps, assign := asg, body := bd, defers := w.heap.size }) := by
    rw [hw2, ← hsz]; exact World.alloc_heap_new w1 _
  have hgr : w1.grownBy w2 none := by rw [hw2]; exact World.grownBy_alloc w1 _ none
  have H2 := H1.grow (w' := w2) (v := .pointer (some ⟨w.heap.size + 1, 0, none⟩)) (o := .lp .ready none s.t s.N ps asg bd) (row := none) (fun _ _ h => h) (fun g e => by cases e) (fun g e => by cases e) (fun _ _ _ _ _ _ _ _ e => by cases e) hgr (fun g hg => .inr (by simp only [base, and_self, if_true, Option.some.injEq] at hg; omega))
    ⟨w.heap.size + 1, _, by simp [updσ], by have := H.size; omega, hL, ⟨rfl, rfl, rfl, rfl, rfl, hN⟩, fun i => (H1.fr _ List.mem_cons_self i).mono (fun g hg => hgr.block g (H1.sS g hg) (by simp)) (fun _ h => h) (fun b u hb => by
      simp only [res] at hb ⊢
      by_cases hlt : b < n
      · rw [if_pos hlt, updσ_ne (by omega)]; exact hb
      · rw [(H.fresh b (by omega)).2] at hb; cases hb)⟩
  have hlt : ∀ p : Fr, p ∈ (⟨s.t, a.tmps, none, dsOf a.defers⟩ :: fr : List Fr) → ∀ d, d ∈ p.ds → d < w.heap.size := fun p hp d hd => (Array.getElem?_eq_some_iff.1 (H.ds p hp d hd).2.1).1
  refine ⟨H2.old, H2.le0, H2.gl, H2.s0, H2.sS, H2.bx, ?_, H2.sep, H2.un, ?_, ?_, H2.fresh⟩
  · intro p hp i
    rcases List.mem_cons.1 hp with rfl | hp
    · by_cases hi : i = 0
      · subst hi
        exact .yl (by simp [res, updσ])
      · simp only [hi, if_false]
        exact .d (.no _)
    · rcases List.mem_cons.1 hp with rfl | hp
      · refine (H.fr _ List.mem_cons_self i).mono (fun g hg => ?_) (fun _ h => h) (fun b u hb => ?_)
        · exact (hgr.block g (H1.sS g hg) (by simp)).trans (hold g (H.sS g hg))
        · simp only [res] at hb ⊢
          by_cases hlt : b < n
          · rw [if_pos hlt, updσ_ne (by omega)]; exact hb
          · rw [(H.fresh b (by omega)).2] at hb; cases hb
      · exact H2.fr p (List.mem_cons_of_mem _ hp) i
  · intro p hp d hd
    rcases List.mem_cons.1 hp with rfl | hp
    · simp at hd
    · rcases List.mem_cons.1 hp with rfl | hp
      · rcases List.mem_cons.1 hd with rfl | hd
        · have hs := H.size
          refine ⟨hs, (hgr.block _ (by omega) (by simp)).trans hD, fun hS => by have := H.sS _ hS; omega, fun b o u hb hl hu hg => ?_⟩
          rcases upd_eq hb with ⟨rfl, rfl⟩ | ⟨e, hb⟩
          · simp only [updσ, if_true, Option.some.injEq] at hu
            subst hu
            simp only [base, and_self, if_true, Option.some.injEq] at hg
            omega
          · rw [updσ_ne e] at hu
            have := (H.row_lt hb hl hu hg).2
            omega
        · exact H2.ds _ List.mem_cons_self d hd
      · exact H2.ds p (List.mem_cons_of_mem _ hp) d hd
  · have h1 : (dsOf a.defers ++ (fr.map Fr.ds).flatten).Nodup := by simpa using H.nd
    have h2 : w.heap.size ∉ dsOf a.defers ++ (fr.map Fr.ds).flatten := by
      intro hm
      rcases List.mem_append.1 hm with hm | hm
      · exact absurd (hlt _ List.mem_cons_self _ hm) (Nat.lt_irrefl _)
      · obtain ⟨l, hl, hd⟩ := List.mem_flatten.1 hm
        obtain ⟨p, hp, rfl⟩ := List.mem_map.1 hl
        exact absurd (hlt p (List.mem_cons_of_mem _ hp) _ hd) (Nat.lt_irrefl _)
    simpa using List.nodup_cons.2 ⟨h2, h1⟩
/-- a loop's record is given up -/
theorem HR.dropLp (H : HR n₀ w₀ S₀ S σ h n fr w) {b l : Nat} {o : Ob} (hb : h b = some o) (hl : o.live = true) (hu : σ b = some (.pointer (some ⟨l, 0, none⟩))) (o' : Obj) : HR n₀ w₀ S₀ S σ (kil h b) n fr (w.putObj l o') :=
  H.wrg (w' := w.putObj l o') (g := l) hb hl hu rfl ⟨rfl, rfl, rfl, by simp, fun k _ hk => World.putObj_heap_other (fun e => hk (by rw [e]))⟩ fun b1 p1 h1 => .inr (kil_eq h1)
theorem rng_ok (hF : Free F) (hm : P.follows .mixedOrders = true) (hro : F.round = none) (H : SR n₀ w₀ S₀ S σ s fr a w) {g : Operand} {ps : Array Tmp} {asg bd : Code} {Q : Exit → St → Prop} {p : FuncId} {caps : List V} {lb : List Value}
    (hg : a.eval g = .func (.func p) #[] lb.toArray) (hlen : lb.length = caps.length) (hcap : ∀ (i : Nat) x u, caps[i]? = some x → lb[i]? = some u → Vr w S σ x u)
    (hp : Hc P p (.yl s.n :: caps) (upd s.h s.n (.lp .ready none s.t s.N ps asg bd)) (s.n + 1) (rngR s.n s Q)) : (Code.rangeFunc g ps asg bd).wpIn F k P (Gx n₀ w₀ S₀ fr Q) a w := by
  refine wpIn_rangeFunc fun fn hfn => ?_
  have H2 := H.h.newLp (ps := ps) (asg := asg) (bd := bd) (fn := fn) H.N (l := some s.n) rfl
  let W2 : World := (w.alloc (.deferred (some []))).alloc (.loop { state := .ready, pending := none, fn, tmps := a.tmps, params := ps, assign := asg, body := bd, defers := w.heap.size })
  refine ⟨w.heap.size + 1, [⟨.collected w.heap.size, #[]⟩], W2, { target := .fn (.func p) lb.toArray, args := #[.func (.yield (w.heap.size + 1)) #[] #[]] }, W2, p, ((.func (.yield (w.heap.size + 1)) #[] #[]) :: lb).toArray, W2, by rw [hro]; exact run_enterLoop_outer _ _ _ _ _, ?_, fun f' _ => hF.fn f', ?_, (fun h => by rw [hF.depth] at h; cases h), hF.calls ((hp.run n₀ w₀ S₀ S _ _ _ _ H2 ?_ (by simp [hlen]) ?_).mono ?_)⟩
  · simp only [resolve, hg]
    simp [Deferred.ofValue, Act.eval]
  · have := callFunc_run hp.pl (#[.func (.yield (w.heap.size + 1)) #[] #[]] ++ lb.toArray) ((w.alloc (.deferred (some []))).alloc (.loop { state := .ready, pending := none, fn, tmps := a.tmps, params := ps, assign := asg, body := bd, defers := w.heap.size }))
    simp [invoke]
    simpa using this
  · intro q hq
    rcases List.mem_cons.1 hq with rfl | hq
    · exact ⟨_, rfl, Nat.le_refl _⟩
    · rcases List.mem_cons.1 hq with rfl | hq
      · exact ⟨_, rfl, by omega⟩
      · obtain ⟨l, h1, h2⟩ := H.lo q hq
        exact ⟨l, h1, by have := H.lon; omega⟩
  · intro i x u hx hu
    cases i with
    | zero =>
      simp only [List.getElem?_cons_zero, Option.some.injEq] at hx hu
      subst hx hu
      exact .yl (by simp [updσ])
    | succ i =>
      simp only [List.getElem?_cons_succ] at hx hu
      exact (hcap i x u hx hu).mono (fun g hg => by
        rw [ha_old _ _ (by have := H.h.sS g hg; simp; omega), ha_old _ _ (H.h.sS g hg)]) (fun _ h => h) (updσ_sub H.h _)
  · rintro e w' ⟨r, h', n', S', σ', v, rfl, hq, H', hx, hn⟩
    have hy := H'.fr _ List.mem_cons_self 0
    have hσ : σ' s.n = some (.pointer (some ⟨w.heap.size + 1, 0, none⟩)) := by
      simp only [if_true] at hy
      have hv0 : (#[Value.func (.yield (w.heap.size + 1)) #[] #[]] : Array Value).getD 0 undef = .func (.yield (w.heap.size + 1)) #[] #[] := rfl
      rw [hv0] at hy
      cases hy with
      | yl hy => simpa [res] using hy
    unfold rngR at hq
    split at hq
    · rename_i st pend t' N' ps' asg' bd' hb
      replace hq := chk_iff.1 hq
      obtain ⟨hst, hq⟩ := hq
      obtain ⟨l, rec, g1, g2, g3, ⟨g4, g5, _⟩, _⟩ := H'.bx s.n _ hb
      rw [hσ] at g1
      cases g1
      have hnb : rec.state ≠ .busy := by rw [g4]; intro e; rw [e] at hst; cases hst
      refine ⟨pend, w'.putObj (w.heap.size + 1) (.loop { rec with state := .exhausted }), by rw [← g5]; exact run_endLoop g3 hnb, ?_⟩
      have HD := H'.dropLp hb rfl hσ (.loop { rec with state := .exhausted })
      have HU : SR n₀ w₀ S₀ S' σ' { s with h := kil h' s.n, n := n' } fr { a with defers := [⟨.collected w.heap.size, #[]⟩] ++ a.defers } (w'.putObj (w.heap.size + 1) (.loop { rec with state := .exhausted })) := by
        refine ⟨?_, H.lo, by have := H.lon; show s.lo ≤ n'; omega, H.N, fun d hd => ?_⟩
        · refine uncaller (l := s.n) ⟨HD.old, HD.le0, HD.gl, HD.s0, HD.sS, HD.bx, fun p hp => HD.fr p (List.mem_cons_of_mem _ hp), HD.sep, HD.un, fun p hp => HD.ds p (List.mem_cons_of_mem _ hp), HD.nd, HD.fresh⟩
        · rcases List.mem_cons.1 hd with rfl | hd
          · exact ⟨_, rfl⟩
          · exact H.d d hd
      split at hq
      · exact ⟨⟨_, _, _, hq, HU⟩, trivial⟩
      · exact wpIn_ret ⟨⟨_, _, _, hq, HU⟩, trivial⟩
      · exact wpIn_exit ⟨⟨_, _, _, hq, HU⟩, trivial⟩
      · exact wpIn_goto ⟨⟨_, _, _, hq, HU⟩, trivial⟩
      · exact hq.elim
    · exact hq.elim
theorem code_ok (hT : TOk P T) (hF : Free F) (hm : P.follows .mixedOrders = true) (hrd : rd = false → F.round = none) : ∀ (c : Code) (s : St) (Q : Exit → St → Prop) (S : Nat → Prop) (σ : Sg) (a : Act) (w : World), wpP P T rd pl c s Q → SR n₀ w₀ S₀ S σ s fr a w → c.wpIn F k P (Gx n₀ w₀ S₀ fr Q) a w := by
  intro c
  induction c with
  | skip => intro s Q S σ a w hp H; exact wpIn_skip ⟨⟨s, S, σ, hp, H⟩, trivial⟩
  | label l => intro s Q S σ a w hp H; exact wpIn_label ⟨⟨s, S, σ, hp, H⟩, trivial⟩
  | ret => intro s Q S σ a w hp H; exact wpIn_ret ⟨⟨s, S, σ, hp, H⟩, trivial⟩
  | exit i => intro s Q S σ a w hp H; exact wpIn_exit ⟨⟨s, S, σ, hp, H⟩, trivial⟩
  | goto i => intro s Q S σ a w hp H; exact wpIn_goto ⟨⟨s, S, σ, hp, H⟩, trivial⟩
  | region i ops draw =>
    intro s Q S σ a w hp H
    cases draw with
    | false =>
      refine wpIn_region ?_
      rw [List.range_eq_range', ← Array.length_toList]
      exact reg_ok hT hF (fun a w h => ⟨h, trivial⟩) ops.toList 0 s S σ a w rfl H hp
    | true =>
      obtain ⟨h1, s₁, h2, h3⟩ := hp
      refine wpIn_region_any hm ((plan_ok (n₀ := n₀) (w₀ := w₀) (S₀ := S₀) (fr := fr) hT hF hrd (K := fun s' => Wk s' s₁) (fun a w h => ?_) (fun c a w h => h.2) (pl.get i)).1 _ _ s S σ a _ h1 ?_ h2)
      · obtain ⟨s', S', σ', hw, H'⟩ := h
        obtain ⟨S2, σ2, H2⟩ := hw.tol _ _ _ _ _ _ _ _ H'
        exact ⟨⟨s₁, S2, σ2, h3, H2⟩, trivial⟩
      exact ⟨H.h.drew rfl rfl rfl rfl, H.lo, H.lon, H.N, H.d⟩
  | seq c d ihc ihd =>
    intro s Q S σ a w hp H
    refine wpIn_seq (wpIn_mono (ihc s _ S σ a w hp H) ?_)
    rintro e a' w' ⟨⟨s', S', σ', hq, H'⟩, he⟩
    cases e with
    | normal => exact ihd s' Q S' σ' a' w' hq H'
    | panic c => exact he.elim
    | outgrown => exact he.elim
    | _ => exact ⟨⟨s', S', σ', hq, H'⟩, trivial⟩
  | cond x c d ihc ihd =>
    intro s Q S σ a w hp H
    simp only [wpP] at hp
    obtain ⟨s', hwk, hp⟩ := hp
    obtain ⟨S', σ', H⟩ := hwk.tol _ _ _ _ _ _ _ _ H
    have hx := H.ev x
    unfold condP at hp
    split at hp
    · rename_i b hb
      rw [hb] at hx
      generalize hv : a.eval x = v at hx
      cases hx with
      | d hx =>
        cases hx
        exact wpIn_cond_split hv (fun h => ihc s' Q S' σ' a w (hp.1 h) H) (fun h => ihd s' Q S' σ' a w (hp.2 h) H)
    · exact hp.elim
  | block i c ih =>
    intro s Q S σ a w hp H
    refine wpIn_block (wpIn_mono (ih s _ S σ a w hp H) ?_)
    rintro e a' w' ⟨⟨s', S', σ', hq, H'⟩, he⟩
    cases e with
    | exit j =>
      simp only [Exit.inBlock]
      by_cases e : j = i
      · subst e
        rw [if_pos rfl]
        simp only [Nat.beq_refl, cond_true] at hq
        exact ⟨⟨s', S', σ', hq, H'⟩, trivial⟩
      · rw [if_neg e]
        simp only [beq_ne e, cond_false] at hq
        exact ⟨⟨s', S', σ', hq, H'⟩, trivial⟩
    | panic c => exact he.elim
    | outgrown => exact he.elim
    | _ => exact ⟨⟨s', S', σ', hq, H'⟩, trivial⟩
  | loop c ih =>
    intro s Q S σ a w hp H
    obtain ⟨n0, hp⟩ := hp
    classical
    let J : Nat → Act → World → Prop := fun n a w => ∃ s S σ, loopP (wpP P T rd pl c) n s Q ∧ SR n₀ w₀ S₀ S σ s fr a w
    have hJ : ∀ a w, (∃ n, J n a w) → ∃ n, J n a w ∧ ∀ m, m < n → ¬ J m a w := fun a w h => least h
    let μ : Act → World → Nat := fun a w => if h : ∃ n, J n a w then Classical.choose (hJ a w h) else 0
    have hμ : ∀ a w (h : ∃ n, J n a w), J (μ a w) a w ∧ ∀ m, m < μ a w → ¬ J m a w := fun a w h => by
      have : μ a w = Classical.choose (hJ a w h) := dif_pos h
      rw [this]
      exact Classical.choose_spec (hJ a w h)
    refine wpIn_loop (fun a w => ∃ n, J n a w) μ ⟨n0, s, S, σ, hp, H⟩ ?_
    intro a w hI
    obtain ⟨⟨s1, S1, σ1, h1, H1⟩, hmin⟩ := hμ a w hI
    cases hn : μ a w with
    | zero => rw [hn] at h1; exact h1.elim
    | succ m =>
      rw [hn] at h1
      obtain ⟨s2, hwk, hb⟩ := h1
      obtain ⟨S2, σ2, H2⟩ := hwk.tol _ _ _ _ _ _ _ _ H1
      refine wpIn_mono (ih s2 _ S2 σ2 a w hb H2) ?_
      rintro e a' w' ⟨⟨s', S', σ', hq, H'⟩, he⟩
      cases e with
      | normal =>
        have hj : ∃ n, J n a' w' := ⟨m, s', S', σ', hq, H'⟩
        refine ⟨hj, ?_⟩
        rcases Nat.lt_or_ge m (μ a' w') with hlt | hge
        · exact absurd ⟨s', S', σ', hq, H'⟩ ((hμ a' w' hj).2 m hlt)
        · omega
      | panic c => exact he.elim
      | outgrown => exact he.elim
      | _ => exact ⟨⟨s', S', σ', hq, H'⟩, trivial⟩
  | rangeFunc f ps asg c ih1 ih2 =>
    intro s Q S σ a w hp H
    replace hp := chk_iff.1 hp
    obtain ⟨hr, hp⟩ := hp
    have hro := hrd (by simpa using hr)
    have hf := H.ev f
    unfold rngP at hp
    split at hp
    · rename_i p caps hpf
      rw [hpf] at hf
      generalize hv : a.eval f = v at hf
      cases hf with
      | fn vs h1 h2 => exact rng_ok hF hm hro H hv h1 h2 hp
    · rename_i p caps hpf
      rw [hpf] at hf
      generalize hv : a.eval f = v at hf
      cases hf with
      | d hf =>
        cases hf with
        | fn vs h1 h2 => exact rng_ok hF hm hro H hv (by simp [h1]) (Al.map_d (σ := σ) ⟨h1, h2⟩).at_ hp
    · exact hp.elim
  | scope c ih => intro s Q S σ a w hp H; exact hp.elim
  | refuse why => intro s Q S σ a w hp H; exact hp.elim
end
end Go.Proofs.YtcpaajecppplhaaGreatDoor.Am
end
