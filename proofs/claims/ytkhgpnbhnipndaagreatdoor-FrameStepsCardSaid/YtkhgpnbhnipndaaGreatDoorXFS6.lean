/- What the law leans on, part 7: declarations of several texts of ours, in their order. -/
import Derived.Test.YtkhgpnbhnipndaaGreatDoorXFS5
import Derived.Laws.Small
import Derived.Laws.Tables
import Derived.Laws.StructEq
section
/-! Operations, on. -/
namespace Go.Proofs.YtkhgpnbhnipndaaGreatDoor.Am
open Go Go.RowKit
set_option linter.unusedVariables false
set_option linter.unusedSimpArgs false
section
variable (T : Tab)
def extractP (x : V) (i : Nat) (K : V → Prop) : Prop :=
  match x with
  | .tup l => ∃ y, l[i]? = some y ∧ K y
  | .d (.tup l) => ∃ y, l[i]? = some y ∧ K (.d y)
  | _ => False
def pickP (c x y : V) (K : V → Prop) : Prop :=
  match c with
  | .d (.v (.bool b)) => (b = true → K x) ∧ (b = false → K y)
  | _ => False
/-- a comparison with nil -/
inductive NC where
  | fn (b : Bool)
  | sl (n : Nat)
  | ns
def nilC (x y : V) : Option NC :=
  match y with
  | .d (.v .nilFunc) => (match x with
    | .fn _ _ => some (.fn false)
    | .d (.fn _ _) => some (.fn false)
    | .d (.v .nilFunc) => some (.fn true)
    | _ => none)
  | .d (.v (.slice none 0 0)) => (match x with
    | .d (.sl _ _ n _) => some (.sl n)
    | .d (.v (.slice none 0 0)) => some .ns
    | _ => none)
  | _ => none
def eqB (op : BinOp) (b : Bool) (K : V → Prop) : Prop :=
  match op with
  | .eql => K (.imm (.bool b))
  | .neq => K (.imm (.bool !b))
  | _ => False
/-- parts of structs that are compared: whole numbers, texts, truths -/
def eqLeaf (k : Option TypeDesc) (x y : V) : Option Bool :=
  match k, x, y with
  | some (.int _), .d (.v (.int k a)), .d (.v (.int k' b)) => match decide (k = k') with
    | true => some (a == b)
    | false => none
  | some .string, .d (.v (.string a)), .d (.v (.string b)) => some (a.toList == b.toList)
  | some .bool, .d (.v (.bool a)), .d (.v (.bool b)) => some (a == b)
  | _, _, _ => none
def eqFs : List (Nat × Nat) → List V → List V → Option Bool
  | [], _, _ => some true
  | (o, ft) :: fs, x, y => match T ft with
    | none => none
    | some r => match r.agg with
      | true => none
      | false => match x[o]?, y[o]? with
        | some a, some b => (match eqLeaf r.kind a b with
          | none => none
          | some e => match eqFs fs x y with
            | none => none
            | some e' => some (e && e'))
        | _, _ => none
def eqL (op : BinOp) (b : Bool) (K : V → Prop) : Prop :=
  match op with
  | .eql => ∀ v, b = v → K (.imm (.bool v))
  | .neq => ∀ v, (!b) = v → K (.imm (.bool v))
  | _ => False
def binP (op : BinOp) (t : TypeId) (x y : V) (K : V → Prop) : Prop :=
  match x, y with
  | .d (.v (.bool a)), .d (.v (.bool b)) => match T t with
    | none => False
    | some r => match r.kind, op with
      | some .bool, .eql => K (.imm (.bool (a == b)))
      | some .bool, .neq => K (.imm (.bool (!(a == b))))
      | _, _ => False
  | .d (.v a), .d (.v b) => binQ op a b (fun r => K (.imm r))
  | .agg l, .agg l' => match T t with
    | none => False
    | some r => chk r.sq <| match eqFs T r.fs l l' with
      | some b => eqL op b K
      | none => False
  | _, _ => False
def binN (op : BinOp) (t : TypeId) (x y : V) (K : V → Prop) : Prop :=
  match nilC x y with
  | none => binP T op t x y K
  | some (.fn b) => (match T t with
    | some r => (match r.kind with | some (.func _ _ _) => eqB op b K | _ => False)
    | none => False)
  | some (.sl n) => (match T t with
    | some r => (match r.el with | some _ => ∀ b : Bool, (0 < n → b = false) → eqB op b K | none => False)
    | none => False)
  | some .ns => (match T t with
    | some r => (match r.el with | some _ => eqB op true K | none => False)
    | none => False)
/-- whether an interface holds nothing -/
def isNilC : Operand → Bool
  | .const .nilIface => true
  | _ => false
def ifN (op : BinOp) (t : TypeId) (x : V) (K : V → Prop) : Prop :=
  match T t with
  | none => False
  | some r => chk r.isI (match x with
    | .ifc _ _ => eqB op false K
    | .d (.ifc _ _) => eqB op false K
    | .d (.v .nilIface) => eqB op true K
    | _ => False)
def mkIfP (t : TypeId) (x : V) (K : V → Prop) : Prop :=
  match T t with
  | none => False
  | some r => chk (!r.isI) (K (.ifc t x))
def unP (op : UnOp) (x : V) (K : V → Prop) : Prop :=
  match op, x with
  | .not, .d (.v (.bool b)) => K (.imm (.bool !b))
  | .neg, .d (.v (.int k a)) => K (.imm (.int k (k.wrap (0 - a))))
  | _, _ => False
def convP (src dst : TypeId) (x : V) (K : V → Prop) : Prop :=
  match T src, T dst with
  | some r, some q => match r.kind, q.kind, x with
    | some (.int _), some (.int k), .d (.v (.int _ n)) => K (.imm (.int k (k.wrap n)))
    | some .string, some .string, .d (.v (.string b)) => K (.imm (.string b))
    | _, _, _ => False
  | _, _ => False
/-- parts put into cells, at their places -/
def fillV (place : Nat → Option (Nat × Nat)) : List V → List (Nat × V) → Option (List V)
  | cs, [] => some cs
  | cs, (i, x) :: rest => match place i with
    | none => none
    | some (off, size) => match x.cells with
      | none => none
      | some c => bif Nat.beq c.length size && Nat.ble (off + c.length) cs.length then fillV place (putCells cs off c) rest else none
def buildP (t : TypeId) (parts : List (Nat × V)) (K : V → Prop) : Prop :=
  match T t with
  | none => False
  | some r => chk (!r.pl.isEmpty) <| match fillV (fun i => r.pl[i]?) (r.zero.map .imm) parts with
    | some l => K (.agg l)
    | none => False
def buildAP (t : TypeId) (p : Nat × Nat) (parts : List (Nat × V)) (K : V → Prop) : Prop :=
  match T t, T p.2 with
  | some r, some q => (match fillV (fun i => some (i * q.size, q.size)) (r.zero.map .imm) parts with
    | some l => K (.agg l)
    | none => False)
  | _, _ => False
end
section
variable {n₀ : Nat} {w₀ w w' : World} {S₀ S S' : Nat → Prop} {σ σ' : Sg} {h : Hp} {n k : Nat} {fr : List Fr} {P : Program} {T : Tab} {F : Fence} {o : Oper} {s : St} {a : Act} {Q : Exit → Act → World → Prop} {K : St → Prop}
/-- a value that is told in whatever world, nothing else done -/
def Qt (P : Program) (S : Nat → Prop) (σ : Sg) (o : Oper) (s : St) (a : Act) (w : World) (K : St → Prop) : Prop := ∃ v x, (∀ W, (execOp a.eval o).run P W = .ok (.value v) W) ∧ Vr w S σ x v ∧ K (s.put o.dst x)
theorem quiet_ok {v : Value} {x : V} (hr : ∀ W, (execOp a.eval o).run P W = .ok (.value v) W) (hx : Vr w S σ x v) (hk : K (s.put o.dst x)) : Qt P S σ o s a w K := ⟨v, x, hr, hx, hk⟩
theorem Qt.ok (hF : Free F) (H : SR n₀ w₀ S₀ S σ s fr a w) (hd : ∀ c, o.op ≠ .defer c) (q : Qt P S σ o s a w K) : o.wpIn F k P a w (Gd n₀ w₀ S₀ fr K) Q := by
  obtain ⟨v, x, hr, hx, hk⟩ := q
  exact val_ok hF hd (hr w) H.h H.N (by have := H.lon; omega) H.lo H.d hx hk
/-- a value that is told in this world, which stays as it is -/
def Q1 (P : Program) (S : Nat → Prop) (σ : Sg) (o : Oper) (s : St) (a : Act) (w : World) (K : St → Prop) : Prop := ∃ v x, (execOp a.eval o).run P w = .ok (.value v) w ∧ Vr w S σ x v ∧ K (s.put o.dst x)
theorem Q1.ok (hF : Free F) (H : SR n₀ w₀ S₀ S σ s fr a w) (hd : ∀ c, o.op ≠ .defer c) (q : Q1 P S σ o s a w K) : o.wpIn F k P a w (Gd n₀ w₀ S₀ fr K) Q := by
  obtain ⟨v, x, hr, hx, hk⟩ := q
  exact val_ok hF hd hr H.h H.N (by have := H.lon; omega) H.lo H.d hx hk
theorem Qt.q1 (q : Qt P S σ o s a w K) : Q1 P S σ o s a w K := by
  obtain ⟨v, x, hr, hx, hk⟩ := q
  exact ⟨v, x, hr w, hx, hk⟩
theorem move_ok (H : SR n₀ w₀ S₀ S σ s fr a w) {x : Operand} (ho : o.op = .move x ∨ o.op = .assign x) (hp : K (s.put o.dst (s.ev x))) : Qt P S σ o s a w K := by
  refine quiet_ok (fun W => ?_) (H.ev x) hp
  rcases ho with ho | ho <;> simp [execOp, ho]
theorem pick_ok (H : SR n₀ w₀ S₀ S σ s fr a w) {c x y : Operand} (ho : o.op = .pick c x y) (hp : pickP (s.ev c) (s.ev x) (s.ev y) (fun v => K (s.put o.dst v))) : Qt P S σ o s a w K := by
  have hc := H.ev c
  have hd : ∀ c, o.op ≠ .defer c := fun c hc => by rw [ho] at hc; cases hc
  unfold pickP at hp
  split at hp
  · rename_i b hb
    rw [hb] at hc
    generalize hv : a.eval c = v at hc
    cases hc with
    | d hc =>
      cases hc
      cases b
      · exact quiet_ok (v := a.eval y) (fun W => by simp [execOp, ho, hv, asBool]) (H.ev y) (hp.2 rfl)
      · exact quiet_ok (v := a.eval x) (fun W => by simp [execOp, ho, hv, asBool]) (H.ev x) (hp.1 rfl)
  · exact hp.elim
theorem extract_ok (H : SR n₀ w₀ S₀ S σ s fr a w) {x : Operand} {i : Nat} (ho : o.op = .extract x i) (hp : extractP (s.ev x) i (fun v => K (s.put o.dst v))) : Qt P S σ o s a w K := by
  have hx := H.ev x
  have hd : ∀ c, o.op ≠ .defer c := fun c hc => by rw [ho] at hc; cases hc
  unfold extractP at hp
  split at hp
  · rename_i l hl
    rw [hl] at hx
    generalize hv : a.eval x = v at hx
    cases hx with
    | tup vs h1 h2 =>
      obtain ⟨y, hy, hp⟩ := hp
      have hi : i < vs.length := by rw [h1]; exact (List.getElem?_eq_some_iff.1 hy).1
      exact quiet_ok (v := vs[i]) (fun W => by simp [execOp, ho, hv, Instr.extract, hi]) (h2 i y _ hy (List.getElem?_eq_getElem hi)) hp
  · rename_i l hl
    rw [hl] at hx
    generalize hv : a.eval x = v at hx
    cases hx with
    | d hx =>
      cases hx with
      | tup vs h1 h2 =>
        obtain ⟨y, hy, hp⟩ := hp
        have hi : i < vs.length := by rw [h1]; exact (List.getElem?_eq_some_iff.1 hy).1
        exact quiet_ok (v := vs[i]) (fun W => by simp [execOp, ho, hv, Instr.extract, hi]) (.d (h2 i y _ hy (List.getElem?_eq_getElem hi))) hp
  · exact hp.elim
theorem fieldAddr_ok (hT : TOk P T) (H : SR n₀ w₀ S₀ S σ s fr a w) {t : TypeId} {x : Operand} {i : Nat} (ho : o.op = .fieldAddr t x i) (hp : fieldAddrP T t (s.ev x) i (fun v => K (s.put o.dst v))) : Qt P S σ o s a w K := by
  have hx := H.ev x
  have hd : ∀ c, o.op ≠ .defer c := fun c hc => by rw [ho] at hc; cases hc
  unfold fieldAddrP at hp
  split at hp
  · exact hp.elim
  rename_i r hr
  split at hp
  · exact hp.elim
  rename_i off ft hf
  split at hp
  · exact hp.elim
  rename_i q hq
  replace hp := chk_iff.1 hp
  obtain ⟨hne, hp⟩ := hp
  have hne : q.size ≠ 0 := fun e => by rw [e] at hne; cases hne
  obtain ⟨fields, f, h1, _, h2, h3, h4⟩ := hT.fs t r i off ft hr hf
  have run : ∀ (g p : Nat), a.eval x = .pointer (some ⟨g, p, none⟩) → ∀ W, (execOp a.eval o).run P W = .ok (.value (.pointer (some ⟨g, p + off, none⟩))) W := by
    intro g p he W
    have e1 : (sizeOf f.type).run P W = .ok q.size W := by rw [h4]; exact run_size' hT hq W
    simp [execOp, ho, Instr.fieldAt, run_underlying h1, h2, Instr.sureAddr, he, fieldPlace, e1, hne, Addr.add_lit, h3]
  split at hp
  · rename_i b p hb
    rw [hb] at hx
    generalize hv : a.eval x = v at hx
    cases hx with
    | pt u hu hg => exact quiet_ok (run _ _ hv) (.pt u hu hg) hp
  · rename_i l p hb
    rw [hb] at hx
    generalize hv : a.eval x = v at hx
    cases hx with
    | ep g p' us h1 h2 h3 h4 h5 => exact quiet_ok (run _ _ hv) (by rw [Nat.add_assoc]; exact .ep g p' us h1 h2 h3 h4 h5) hp
  · exact hp.elim
theorem field_ok (hT : TOk P T) (H : SR n₀ w₀ S₀ S σ s fr a w) {t : TypeId} {x : Operand} {i : Nat} (ho : o.op = .field t x i) (hp : fieldP T t (s.ev x) i (fun v => K (s.put o.dst v))) : Qt P S σ o s a w K := by
  have hx := H.ev x
  have hd : ∀ c, o.op ≠ .defer c := fun c hc => by rw [ho] at hc; cases hc
  unfold fieldP at hp
  split at hp
  · exact hp.elim
  rename_i r hr
  split at hp
  · exact hp.elim
  rename_i off ft hf
  split at hp
  · exact hp.elim
  rename_i q hq
  obtain ⟨fields, f, h1, _, h2, h3, h4⟩ := hT.fs t r i off ft hr hf
  split at hp
  · rename_i l hl
    rw [hl] at hx
    generalize hv : a.eval x = v at hx
    cases hx with
    | agg vs h5 h6 h7 =>
      have e1 : ∀ W, (sizeOf f.type).run P W = .ok q.size W := fun W => by rw [h4]; exact run_size' hT hq W
      have e2 : ∀ W, (isAgg f.type).run P W = .ok q.agg W := fun W => by rw [h4]; exact run_isAgg' hT hq W
      revert hp
      cases ha : q.agg
      · rintro ⟨y, hy, hp⟩
        have hi : off < vs.length := by rw [h5]; exact (List.getElem?_eq_some_iff.1 hy).1
        refine quiet_ok (v := vs[off]) (fun W => ?_) (h7 off y _ hy (List.getElem?_eq_getElem hi)) hp
        simp [execOp, ho, Instr.field, run_underlying h1, h2, hv, asAgg, part, e2, ha, h3, hi]
      · intro hp
        have hal : Al (Vr w S σ) l vs := ⟨h5, h7⟩
        refine quiet_ok (v := .agg ((vs.drop off).take q.size).toArray) (fun W => ?_) (.agg _ (hal.sub off q.size).len (by simpa using one_sub h6 off q.size) (hal.sub off q.size).at_) hp
        simp [execOp, ho, Instr.field, run_underlying h1, h2, hv, asAgg, part, e2, e1, ha, h3]
  · exact hp.elim
theorem bin_ok {op : BinOp} {t : TypeId} {x y r : Value} {p q : Operand} (h : bin op x y = some r) (w : World) : (binOp op t x y).run P w = .ok r w ∧ (eqGuard op t p q x y).run P w = .ok () w := by
  unfold bin at h
  split at h
  · rename_i k a k' b
    split at h
    · cases h
    · rename_i hk
      have : k = k' := of_decide_eq_true hk
      subst this
      split at h <;> cases h <;> simp [binOp, Op.intArith, Op.intCmp, eqGuard]
  · split at h <;> cases h <;> simp [binOp, Op.stringOp, eqGuard]
  · cases h
theorem binQ_ok {op : BinOp} {t : TypeId} {x y : Value} {K' : Value → Prop} {p q : Operand} (h : binQ op x y K') : ∃ r, K' r ∧ ∀ w, (binOp op t x y).run P w = .ok r w ∧ (eqGuard op t p q x y).run P w = .ok () w := by
  unfold binQ at h
  split at h
  · obtain ⟨rfl, hb, hK⟩ := h
    exact ⟨_, hK, fun w => ⟨by simp [binOp, Op.intDiv, hb], by simp [eqGuard]⟩⟩
  · obtain ⟨rfl, hb, hK⟩ := h
    exact ⟨_, hK, fun w => ⟨by simp [binOp, Op.intDiv, hb], by simp [eqGuard]⟩⟩
  · obtain ⟨hb, hK⟩ := h
    exact ⟨_, hK, fun w => ⟨by simp [binOp, Op.shift, Int.not_lt.2 hb], by simp [eqGuard]⟩⟩
  · obtain ⟨hb, hK⟩ := h
    exact ⟨_, hK, fun w => ⟨by simp [binOp, Op.shift, Int.not_lt.2 hb], by simp [eqGuard]⟩⟩
  · obtain ⟨rfl, hK⟩ := h
    exact ⟨_, hK, fun w => ⟨by simp [binOp, Op.intBits], by simp [eqGuard]⟩⟩
  · obtain ⟨hb, hK⟩ := h
    exact ⟨_, hK, fun w => ⟨by simp only [binOp, Op.stringOp]; rw [if_neg (by omega)]; rfl, by simp [eqGuard]⟩⟩
  · obtain ⟨r, h1, hK⟩ := h
    exact ⟨r, litK_is hK, fun w => bin_ok h1 w⟩
theorem leaf_run (hT : TOk P T) {ft : TypeId} {q : Ti} (hq : T ft = some q) {x y : V} {u u' : Value} (hx : Vr w S σ x u) (hy : Vr w S σ y u') {e : Bool} (he : eqLeaf q.kind x y = some e) (d : Nat) (W : World) : (Op.equalIn (d + 1) ft u u').run P W = .ok e W := by
  unfold eqLeaf at he
  split at he
  · rename_i k k1 a k2 b hk
    have hu := hT.ks _ _ _ hq hk
    cases hx with
    | d hx =>
      cases hx
      cases hy with
      | d hy =>
        cases hy
        split at he
        · rename_i hkk
          have : k1 = k2 := of_decide_eq_true hkk
          subst this
          cases he
          exact run_equalIn_int W d ft _ _ _ _ hu
        · cases he
  · rename_i a b hk
    have hu := hT.ks _ _ _ hq hk
    cases hx with
    | d hx =>
      cases hx
      cases hy with
      | d hy =>
        cases hy
        cases he
        exact run_equalIn_string W d ft _ _ hu
  · rename_i a b hk
    have hu := hT.ks _ _ _ hq hk
    cases hx with
    | d hx =>
      cases hx
      cases hy with
      | d hy =>
        cases hy
        cases he
        exact run_equalIn_bool' W d ft _ _ hu
  · cases he
theorem part_run (hT : TOk P T) {ft : TypeId} {q : Ti} (hq : T ft = some q) (ha : q.agg = false) {vs : List Value} {off : Nat} {u : Value} (hu : vs[off]? = some u) (W : World) : (part ft vs.toArray off).run P W = .ok u W := by
  obtain ⟨hi, rfl⟩ := List.getElem?_eq_some_iff.1 hu
  have e2 := run_isAgg' hT hq W
  simp [part, e2, ha, hi]
theorem fields_run (hT : TOk P T) {l l' : List V} {vs vs' : List Value} (hl : Al (Vr w S σ) l vs) (hl' : Al (Vr w S σ) l' vs') (d : Nat) : ∀ (fs : List Field) (b : Bool), fs.all (fun f => f.name != "_") = true → eqFs T (fs.map fun f => (f.offset, f.type)) l l' = some b → ∀ W, (Op.eqFields (d + 1) vs.toArray vs'.toArray fs).run P W = .ok b W
  | [], b, _, h, W => by cases h; simp [Op.eqFields]
  | f :: fs, b, hn, h, W => by
    simp only [List.all_cons, Bool.and_eq_true, bne_iff_ne, ne_eq] at hn
    simp only [List.map_cons, eqFs] at h
    split at h
    · cases h
    rename_i r hr
    split at h
    · cases h
    rename_i ha
    split at h
    · rename_i x y hx hy
      obtain ⟨u, hu, hxu⟩ := hl.get hx
      obtain ⟨u', hu', hyu⟩ := hl'.get hy
      split at h
      · cases h
      · rename_i e he
        split at h
        · cases h
        · rename_i e' he'
          cases h
          have h1 := part_run hT hr ha hu W
          have h2 := part_run hT hr ha hu' W
          have h3 := leaf_run hT hr hxu hyu he d W
          have h4 := fields_run hT hl hl' d fs e' (by simpa using hn.2) he' W
          simp only [Op.eqFields, hn.1, not_false_eq_true, if_true, Sem.run_bind, h1, h2, h3, Result.andThen_ok, ne_eq]
          cases e
          · simp
          · simpa using h4
    · cases h
theorem eqL_ok {op : BinOp} {b : Bool} {K' : V → Prop} (h : eqL op b K') : (op = .eql ∧ K' (.imm (.bool b))) ∨ (op = .neq ∧ K' (.imm (.bool !b))) := by
  unfold eqL at h
  split at h
  · exact .inl ⟨rfl, h _ rfl⟩
  · exact .inr ⟨rfl, h _ rfl⟩
  · exact h.elim
theorem binop_ok (hT : TOk P T) (H : SR n₀ w₀ S₀ S σ s fr a w) {op : BinOp} {t u : TypeId} {x y : Operand} (ho : o.op = .binOp op t x y u) (hp : binP T op t (s.ev x) (s.ev y) (fun v => K (s.put o.dst v))) : Qt P S σ o s a w K := by
  have hx := H.ev x
  have hy := H.ev y
  have hd : ∀ c, o.op ≠ .defer c := fun c hc => by rw [ho] at hc; cases hc
  unfold binP at hp
  split at hp
  · rename_i c d hc hdd
    rw [hc] at hx
    rw [hdd] at hy
    generalize hv : a.eval x = v at hx
    generalize hu : a.eval y = v' at hy
    cases hx with
    | d hx =>
      cases hx
      cases hy with
      | d hy =>
        cases hy
        split at hp
        · exact hp.elim
        · rename_i r hr
          split at hp
          · rename_i h1
            have hb := hT.ks t r _ hr h1
            exact quiet_ok (fun W => by simp [execOp, ho, hv, hu, eqGuard, run_eql_bool W t c d hb]) (.d (.v _)) hp
          · rename_i h1
            have hb := hT.ks t r _ hr h1
            exact quiet_ok (fun W => by simp [execOp, ho, hv, hu, eqGuard, run_neq_bool W t c d hb]) (.d (.v _)) hp
          · exact hp.elim
  · rename_i c d hc hdd
    rw [hc] at hx
    rw [hdd] at hy
    generalize hv : a.eval x = v at hx
    generalize hu : a.eval y = v' at hy
    cases hx with
    | d hx =>
      cases hx
      cases hy with
      | d hy =>
        cases hy
        obtain ⟨r, h1, h2⟩ := binQ_ok (P := P) (t := t) (p := x) (q := y) hp
        exact quiet_ok (v := r) (fun W => by simp [execOp, ho, hv, hu, (h2 W).1, (h2 W).2]) (.d (.v r)) h1
  · rename_i l l' hc hdd
    rw [hc] at hx
    rw [hdd] at hy
    generalize hv : a.eval x = v at hx
    generalize hu : a.eval y = v' at hy
    cases hx with
    | agg vs g1 g2 g3 =>
      cases hy with
      | agg vs' k1 k2 k3 =>
        split at hp
        · exact hp.elim
        · rename_i r hr
          replace hp := chk_iff.1 hp
          obtain ⟨hsq, hp⟩ := hp
          obtain ⟨fields, f1, f2, f3, f4, f5⟩ := hT.sq t r hr hsq
          have hf : P.fieldsOf t = fields := by unfold Program.fieldsOf; rw [f1]
          split at hp
          · rename_i b hb
            rw [← f5] at hb
            have hrun : ∀ W, (Op.equalIn 10000 t (.agg vs.toArray) (.agg vs'.toArray)).run P W = .ok b W := fun W => by
              rw [run_equalIn_struct W 9999 t _ _ (by rw [hf]; exact f1) f2, hf]
              exact fields_run hT ⟨g1, g3⟩ ⟨k1, k3⟩ 9998 fields.toList b f4 hb W
            have hgd : ∀ W, (eqGuard op t x y (.agg vs.toArray) (.agg vs'.toArray)).run P W = .ok () W := fun W => run_eqGuard_agg W op t x y _ _ f3
            rcases eqL_ok hp with ⟨rfl, hk⟩ | ⟨rfl, hk⟩
            · exact quiet_ok (v := .bool b) (fun W => by simp [execOp, ho, hv, hu, hgd W, run_eql_struct W, hrun W, Result.andThen]) (.d (.v _)) hk
            · exact quiet_ok (v := .bool !b) (fun W => by simp [execOp, ho, hv, hu, hgd W, run_neq_struct W, hrun W, Result.andThen]) (.d (.v _)) hk
          · exact hp.elim
  · exact hp.elim
theorem eqFn (d : Nat) {t : TypeId} {ps rs : Array TypeId} {v : Bool} (h : P.underlying t = some (.func ps rs v)) (g : Fn) (x y : Array Value) (W : World) : (Op.equalIn (d + 1) t (.func g x y) .nilFunc).run P W = .ok false W := by simp [Op.equalIn, run_underlying h]
theorem eqNn (d : Nat) {t : TypeId} {ps rs : Array TypeId} {v : Bool} (h : P.underlying t = some (.func ps rs v)) (W : World) : (Op.equalIn (d + 1) t .nilFunc .nilFunc).run P W = .ok true W := by simp [Op.equalIn, run_underlying h]
theorem eqSn (d : Nat) {t e : TypeId} (h : P.underlying t = some (.slice e)) (W : World) : (Op.equalIn (d + 1) t (.slice none 0 0) (.slice none 0 0)).run P W = .ok true W := by simp [Op.equalIn, run_underlying h]
theorem eqSs (d : Nat) {t e : TypeId} (h : P.underlying t = some (.slice e)) (a : Addr) (n k : Nat) (W : World) : (Op.equalIn (d + 1) t (.slice (some a) n k) (.slice none 0 0)).run P W = .ok false W := by simp [Op.equalIn, run_underlying h]
theorem eqB_ok {op : BinOp} {b : Bool} {K' : V → Prop} (h : eqB op b K') : (op = .eql ∧ K' (.imm (.bool b))) ∨ (op = .neq ∧ K' (.imm (.bool !b))) := by
  unfold eqB at h
  split at h
  · exact .inl ⟨rfl, h⟩
  · exact .inr ⟨rfl, h⟩
  · exact h.elim
theorem binN_ok (hT : TOk P T) (H : SR n₀ w₀ S₀ S σ s fr a w) {op : BinOp} {t u : TypeId} {x y : Operand} (ho : o.op = .binOp op t x y u) (hp : binN T op t (s.ev x) (s.ev y) (fun v => K (s.put o.dst v))) : Qt P S σ o s a w K := by
  have hx := H.ev x
  have hy := H.ev y
  have fin : ∀ {vx vy : Value} {b : Bool}, a.eval x = vx → a.eval y = vy → (∀ W, (Op.equal t vx vy).run P W = .ok b W) → (∀ W, (eqGuard op t x y vx vy).run P W = .ok () W) → (∀ op' : BinOp, (op' = .eql ∨ op' = .neq) → binOp op' t vx vy = (do let r ← Op.equal t vx vy; pure (.bool (if op' = .eql then r else !r)))) → eqB op b (fun v => K (s.put o.dst v)) → Qt P S σ o s a w K := by
    intro vx vy b h1 h2 h3 h4 h5 h6
    rcases eqB_ok h6 with ⟨rfl, hk⟩ | ⟨rfl, hk⟩
    · exact quiet_ok (v := .bool b) (fun W => by simp [execOp, ho, h1, h2, h4 W, h5 .eql (.inl rfl), h3 W]) (.d (.v _)) hk
    · exact quiet_ok (v := .bool !b) (fun W => by simp [execOp, ho, h1, h2, h4 W, h5 .neq (.inr rfl), h3 W]) (.d (.v _)) hk
  unfold binN at hp
  split at hp
  · exact binop_ok hT H ho hp
  · rename_i b hc
    split at hp
    case h_2 => exact hp.elim
    rename_i r hr
    split at hp
    case h_2 => exact hp.elim
    rename_i p q v hk
    have hu := hT.ks t r _ hr hk
    unfold nilC at hc
    split at hc
    · rename_i hyn
      rw [hyn] at hy
      generalize hvy : a.eval y = vy at hy
      cases hy with
      | d hy =>
        cases hy
        have fnc : ∀ {f : FuncId} {us : List Value}, a.eval x = .func (.func f) #[] us.toArray → b = false → Qt P S σ o s a w K := fun {f us} hvx hb => by
          subst hb
          exact fin (b := false) hvx hvy (fun W => eqFn 9999 hu _ _ _ W) (fun W => by simp [eqGuard]) (fun op' h => by rcases h with rfl | rfl <;> rfl) hp
        split at hc
        · rename_i f c hxf
          cases hc
          rw [hxf] at hx
          generalize hvx : a.eval x = vx at hx
          cases hx with
          | fn us h1 h2 => exact fnc hvx rfl
        · rename_i f c hxf
          cases hc
          rw [hxf] at hx
          generalize hvx : a.eval x = vx at hx
          cases hx with
          | d hx =>
            cases hx with
            | fn us h1 h2 => exact fnc hvx rfl
        · rename_i hxf
          cases hc
          rw [hxf] at hx
          generalize hvx : a.eval x = vx at hx
          cases hx with
          | d hx =>
            cases hx
            exact fin (b := true) hvx hvy (fun W => eqNn 9999 hu W) (fun W => by simp [eqGuard]) (fun op' h => by rcases h with rfl | rfl <;> rfl) hp
        · cases hc
    · split at hc <;> cases hc
    · cases hc
  · rename_i n hc
    split at hp
    case h_2 => exact hp.elim
    rename_i r hr
    split at hp
    case h_2 => exact hp.elim
    rename_i e he
    have hu := hT.el t r e hr he
    unfold nilC at hc
    split at hc
    · split at hc <;> cases hc
    · rename_i hyn
      rw [hyn] at hy
      generalize hvy : a.eval y = vy at hy
      cases hy with
      | d hy =>
        cases hy
        split at hc
        · rename_i z l m c hxf
          cases hc
          rw [hxf] at hx
          generalize hvx : a.eval x = vx at hx
          cases hx with
          | d hx =>
            cases hx with
            | nil z c h => exact fin (b := true) hvx hvy (fun W => eqSn 9999 hu W) (fun W => by simp [eqGuard]) (fun op' h => by rcases h with rfl | rfl <;> rfl) (hp true (fun h => by omega))
            | emp z c a' h => exact fin (b := false) hvx hvy (fun W => eqSs 9999 hu _ _ _ W) (fun W => by simp [eqGuard]) (fun op' h => by rcases h with rfl | rfl <;> rfl) (hp false (fun _ => rfl))
            | sl g o' k us h1 h2 h3 h4 h5 h6 h7 h8 h9 => exact fin (b := false) hvx hvy (fun W => eqSs 9999 hu _ _ _ W) (fun W => by simp [eqGuard]) (fun op' h => by rcases h with rfl | rfl <;> rfl) (hp false (fun _ => rfl))
        · cases hc
        · cases hc
    · cases hc
  · rename_i hc
    split at hp
    case h_2 => exact hp.elim
    rename_i r hr
    split at hp
    case h_2 => exact hp.elim
    rename_i e he
    have hu := hT.el t r e hr he
    unfold nilC at hc
    split at hc
    · split at hc <;> cases hc
    · rename_i hyn
      rw [hyn] at hy
      generalize hvy : a.eval y = vy at hy
      cases hy with
      | d hy =>
        cases hy
        split at hc
        · cases hc
        · rename_i hxf
          rw [hxf] at hx
          generalize hvx : a.eval x = vx at hx
          cases hx with
          | d hx =>
            cases hx
            exact fin (b := true) hvx hvy (fun W => eqSn 9999 hu W) (fun W => by simp [eqGuard]) (fun op' h => by rcases h with rfl | rfl <;> rfl) hp
        · cases hc
    · cases hc
theorem eqIn (d : Nat) {t : TypeId} {m : Array (String × TypeId)} (h : P.underlying t = some (.interface m)) (t' : TypeId) (v : Value) (W : World) : (Op.equalIn (d + 1) t (.iface t' v) .nilIface).run P W = .ok false W := by simp [Op.equalIn, run_underlying h]
theorem eqIn2 (d : Nat) {t : TypeId} {m : Array (String × TypeId)} (h : P.underlying t = some (.interface m)) (W : World) : (Op.equalIn (d + 1) t .nilIface .nilIface).run P W = .ok true W := by simp [Op.equalIn, run_underlying h]
theorem ifN_ok (hT : TOk P T) (H : SR n₀ w₀ S₀ S σ s fr a w) {op : BinOp} {t u : TypeId} {x y : Operand} (ho : o.op = .binOp op t x y u) (hy : isNilC y = true) (hp : ifN T op t (s.ev x) (fun v => K (s.put o.dst v))) : Qt P S σ o s a w K := by
  have hx := H.ev x
  have hye : y = .const .nilIface := by
    unfold isNilC at hy
    split at hy
    · rfl
    · cases hy
  subst hye
  unfold ifN at hp
  split at hp
  · exact hp.elim
  rename_i r hr
  replace hp := chk_iff.1 hp
  obtain ⟨hi, hp⟩ := hp
  obtain ⟨dd, hu, hd⟩ := hT.ic t r hr
  rw [hi] at hd
  obtain ⟨m, rfl⟩ : ∃ m, dd = .interface m := by
    cases dd <;> first | exact ⟨_, rfl⟩ | cases hd
  have fin : ∀ {vx : Value} {b : Bool}, a.eval x = vx → (∀ W, (Op.equal t vx .nilIface).run P W = .ok b W) → (∀ W, (eqGuard op t x (.const .nilIface) vx .nilIface).run P W = .ok () W) → (∀ op' : BinOp, (op' = .eql ∨ op' = .neq) → binOp op' t vx .nilIface = (do let r ← Op.equal t vx .nilIface; pure (.bool (if op' = .eql then r else !r)))) → eqB op b (fun v => K (s.put o.dst v)) → Qt P S σ o s a w K := by
    intro vx b h1 h3 h4 h5 h6
    have h2 : a.eval (.const .nilIface) = .nilIface := rfl
    rcases eqB_ok h6 with ⟨rfl, hk⟩ | ⟨rfl, hk⟩
    · exact quiet_ok (v := .bool b) (fun W => by simp [execOp, ho, h1, h2, h4 W, h5 .eql (.inl rfl), h3 W]) (.d (.v _)) hk
    · exact quiet_ok (v := .bool !b) (fun W => by simp [execOp, ho, h1, h2, h4 W, h5 .neq (.inr rfl), h3 W]) (.d (.v _)) hk
  have one : ∀ {t' : TypeId} {v : Value}, a.eval x = .iface t' v → eqB op false (fun v => K (s.put o.dst v)) → Qt P S σ o s a w K := fun {t' v} h1 h2 =>
    fin (b := false) h1 (fun W => eqIn 9999 hu _ _ W) (fun W => by simp [eqGuard]) (fun op' h => by rcases h with rfl | rfl <;> rfl) h2
  split at hp
  · rename_i t' z hxf
    rw [hxf] at hx
    generalize hvx : a.eval x = vx at hx
    cases hx with
    | ifc hx => exact one hvx hp
  · rename_i t' z hxf
    rw [hxf] at hx
    generalize hvx : a.eval x = vx at hx
    cases hx with
    | d hx =>
      cases hx with
      | ifc hx => exact one hvx hp
  · rename_i hxf
    rw [hxf] at hx
    generalize hvx : a.eval x = vx at hx
    cases hx with
    | d hx =>
      cases hx
      exact fin (b := true) hvx (fun W => eqIn2 9999 hu W) (fun W => by simp [eqGuard]) (fun op' h => by rcases h with rfl | rfl <;> rfl) hp
  · exact hp.elim
theorem mkIf_ok (hT : TOk P T) (H : SR n₀ w₀ S₀ S σ s fr a w) {t : TypeId} {x : Operand} (ho : o.op = .makeInterface t x) (hp : mkIfP T t (s.ev x) (fun v => K (s.put o.dst v))) : Qt P S σ o s a w K := by
  have hx := H.ev x
  unfold mkIfP at hp
  split at hp
  · exact hp.elim
  rename_i r hr
  replace hp := chk_iff.1 hp
  obtain ⟨hi, hp⟩ := hp
  obtain ⟨dd, hu, hd⟩ := hT.ic t r hr
  rw [show r.isI = false by simpa using hi] at hd
  refine quiet_ok (v := .iface t (a.eval x)) (fun W => ?_) (.ifc hx) hp
  have : (Instr.makeInterface t (a.eval x)).run P W = .ok (.iface t (a.eval x)) W := by
    unfold Instr.makeInterface
    rw [Sem.run_bind, run_underlying hu]
    cases dd <;> first | rfl | cases hd
  simp [execOp, ho, this]
theorem unop_ok (H : SR n₀ w₀ S₀ S σ s fr a w) {op : UnOp} {t : TypeId} {x : Operand} (ho : o.op = .unOp op t x) (hp : unP op (s.ev x) (fun v => K (s.put o.dst v))) : Qt P S σ o s a w K := by
  have hx := H.ev x
  have hd : ∀ c, o.op ≠ .defer c := fun c hc => by rw [ho] at hc; cases hc
  unfold unP at hp
  split at hp
  · rename_i b hb
    rw [hb] at hx
    generalize hv : a.eval x = v at hx
    cases hx with
    | d hx => cases hx; exact quiet_ok (fun W => by simp [execOp, ho, hv, Op.unary]) (.d (.v _)) hp
  · rename_i k b hb
    rw [hb] at hx
    generalize hv : a.eval x = v at hx
    cases hx with
    | d hx => cases hx; exact quiet_ok (v := .int k (k.wrap (0 - b))) (fun W => by simp [execOp, ho, hv, Op.unary, Op.intArith]) (.d (.v _)) hp
  · exact hp.elim
theorem conv_ok (hT : TOk P T) (H : SR n₀ w₀ S₀ S σ s fr a w) {t u : TypeId} {x : Operand} (ho : o.op = .convert t u x) (hp : convP T t u (s.ev x) (fun v => K (s.put o.dst v))) : Qt P S σ o s a w K := by
  have hx := H.ev x
  have hd : ∀ c, o.op ≠ .defer c := fun c hc => by rw [ho] at hc; cases hc
  unfold convP at hp
  split at hp
  · rename_i r q hr hq
    split at hp
    · rename_i k1 k2 k3 b h1 h2 hb
      rw [hb] at hx
      generalize hv : a.eval x = v at hx
      cases hx with
      | d hx =>
        cases hx
        exact quiet_ok (fun W => by simp [execOp, ho, hv, convert, run_underlying (hT.ks _ _ _ hr h1), run_underlying (hT.ks _ _ _ hq h2), Conv.intToInt]) (.d (.v _)) hp
    · rename_i b h1 h2 hb
      rw [hb] at hx
      generalize hv : a.eval x = v at hx
      cases hx with
      | d hx =>
        cases hx
        exact quiet_ok (fun W => by simp [execOp, ho, hv, convert, run_underlying (hT.ks _ _ _ hr h1), run_underlying (hT.ks _ _ _ hq h2)]) (.d (.v _)) hp
    · exact hp.elim
  · exact hp.elim
theorem foldl_seg (off : Nat) : ∀ (c : List Value) (i₀ : Nat) (vs : Array Value), off + i₀ + c.length ≤ vs.size →
    ((c.zipIdx i₀).foldl (fun (cs : Array Value) ((c, j) : Value × Nat) => cs.setIfInBounds (off + j) c) vs).toList = vs.toList.take (off + i₀) ++ c ++ vs.toList.drop (off + i₀ + c.length)
  | [], i₀, vs, _ => by simp
  | x :: c, i₀, vs, h => by
    simp only [List.length_cons] at h
    rw [List.zipIdx_cons, List.foldl_cons, foldl_seg off c (i₀ + 1) _ (by simp; omega)]
    have e := list_seg_step vs.toList (off + i₀) x c (by simp; omega)
    simpa [Array.toList_setIfInBounds, Nat.add_assoc, Nat.add_comm 1] using e
theorem fill_ok {place : Nat → Option (Nat × Nat)} : ∀ (parts : List (Nat × V)) (us : List (Nat × Value)) (cs : List V) (vs : Array Value) (l : List V), us.length = parts.length → (∀ (i : Nat) p q, parts[i]? = some p → us[i]? = some q → p.1 = q.1 ∧ Vr w S σ p.2 q.2) → Al (Vr w S σ) cs vs.toList → (∀ u, u ∈ vs.toList → u.oneCell' = true) → fillV place cs parts = some l →
    ∃ vs', Instr.fill place vs us = some vs' ∧ Al (Vr w S σ) l vs'.toList ∧ ∀ u, u ∈ vs'.toList → u.oneCell' = true
  | [], us, cs, vs, l, h1, h2, h3, h4, h5 => by
    cases h5
    have : us = [] := List.eq_nil_of_length_eq_zero (by simpa using h1)
    subst this
    exact ⟨vs, rfl, h3, h4⟩
  | (i, x) :: parts, [], cs, vs, l, h1, h2, h3, h4, h5 => by simp at h1
  | (i, x) :: parts, (j, u) :: us, cs, vs, l, h1, h2, h3, h4, h5 => by
    obtain ⟨e, hx⟩ := h2 0 (i, x) (j, u) rfl rfl
    simp only at e hx
    subst e
    unfold fillV at h5
    split at h5
    · cases h5
    · rename_i off size hpl
      split at h5
      · cases h5
      · rename_i c hc
        obtain ⟨c1, c2⟩ := cells_ok hx hc
        cases hb : (Nat.beq c.length size && Nat.ble (off + c.length) cs.length) with
        | false => rw [hb] at h5; cases h5
        | true =>
          rw [hb] at h5
          rw [Bool.and_eq_true] at hb
          have b1 := Nat.eq_of_beq_eq_true hb.1
          have b2 := Nat.le_of_ble_eq_true hb.2
          have l1 : u.cells.size = size := by rw [← b1, ← c1.len, Array.length_toList]
          have l2 : vs.size = cs.length := by rw [← h3.len, Array.length_toList]
          have e : (u.cells.zipIdx.foldl (fun cs (c, j) => cs.setIfInBounds (off + j) c) vs).toList = vs.toList.take off ++ u.cells.toList ++ vs.toList.drop (off + u.cells.toList.length) := by
            have := foldl_seg off u.cells.toList 0 vs (by rw [Array.length_toList, l1, Nat.add_zero]; omega)
            rw [Nat.add_zero] at this
            rw [← this, ← Array.foldl_toList, Array.toList_zipIdx]
          obtain ⟨vs', f1, f2, f3⟩ := fill_ok parts us (putCells cs off c) (u.cells.zipIdx.foldl (fun cs (c, j) => cs.setIfInBounds (off + j) c) vs) l (by simpa using h1) (fun i p q hp hq => h2 (i + 1) p q (by simpa using hp) (by simpa using hq)) (by
            rw [e]
            simp only [putCells]
            rw [← c1.len]
            exact ((h3.take off).app c1).app (h3.drop _)) (by
            rw [e]
            intro q hq
            simp only [List.append_assoc, List.mem_append] at hq
            rcases hq with hq | hq | hq
            · exact h4 q (List.mem_of_mem_take hq)
            · exact c2 q hq
            · exact h4 q (List.mem_of_mem_drop hq)) h5
          refine ⟨vs', ?_, f2, f3⟩
          unfold Instr.fill
          simp only [hpl]
          rw [if_neg (by simp [l1]; omega)]
          exact f1
theorem build_ok (hT : TOk P T) (H : SR n₀ w₀ S₀ S σ s fr a w) {t : TypeId} {parts : Array (Nat × Operand)} (ho : o.op = .build t parts) (hp : buildP T t (parts.toList.map fun (i, x) => (i, s.ev x)) (fun v => K (s.put o.dst v))) : Qt P S σ o s a w K := by
  have hd : ∀ c, o.op ≠ .defer c := fun c hc => by rw [ho] at hc; cases hc
  unfold buildP at hp
  split at hp
  · exact hp.elim
  rename_i r hr
  replace hp := chk_iff.1 hp
  obtain ⟨hne, hp⟩ := hp
  have hne : r.pl ≠ [] := by simpa using hne
  obtain ⟨fields, g1, g2⟩ := hT.pl t r hr hne
  split at hp
  · rename_i l hl
    obtain ⟨i, z, h1, h2, h3, h4, h5, h6, h7⟩ := hT.info t r hr
    have hal : Al (Vr w S σ) (r.zero.map .imm) z.cells.toList := by
      rw [h5]
      refine ⟨by simp, fun j x u hx hu => ?_⟩
      rw [List.getElem?_map, hu] at hx
      cases hx
      exact .d (.v u)
    obtain ⟨vs', f1, f2, f3⟩ := fill_ok _ (parts.toList.map fun (i, x) => (i, a.eval x)) _ z.cells l (by simp) (fun j p q hp hq => by
      rw [List.getElem?_map] at hp hq
      cases e : parts.toList[j]? with
      | none => rw [e] at hp; cases hp
      | some y => rw [e] at hp hq; cases hp; cases hq; exact ⟨rfl, H.ev _⟩) hal (by rw [h5]; exact h7) hl
    refine quiet_ok (v := .agg vs') (fun W => ?_) ?_ hp
    · have hb := run_build (P := P) W t (parts.map fun (i, x) => (i, a.eval x)) vs' (by
        unfold Program.built
        simp only [h1, g1, h4, g2, Array.toList_map]
        simpa using f1)
      simp [execOp, ho, hb]
    · have := Vr.agg (w := w) (S := S) (σ := σ) vs'.toList f2.len f3 f2.at_
      simpa using this
  · exact hp.elim
end
end Go.Proofs.YtkhgpnbhnipndaaGreatDoor.Am
end
