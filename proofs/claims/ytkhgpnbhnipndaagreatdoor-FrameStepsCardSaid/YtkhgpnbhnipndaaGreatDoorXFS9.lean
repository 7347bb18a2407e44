/- What the law leans on, part 10: declarations of several texts of ours, in their order. -/
import Derived.Test.YtkhgpnbhnipndaaGreatDoorXFS8
import Derived.TacticsIn
section
/-! Regions and codes. -/
namespace Go.Proofs.YtkhgpnbhnipndaaGreatDoor.Am
open Go Go.RowKit
set_option linter.unusedVariables false
set_option linter.unusedSimpArgs false
/-- in which order a region that draws its order is looked at: what yields in whatever world first, else all that may come up -/
inductive Plan where
  | done
  | first (j : Nat) (p : Plan)
  | load (j : Nat) (D : List Nat) (p : Plan)
  | ld2 (j : Nat) (D ts : List Nat) (p : Plan)
  | kc (p : Plan)
  | alt (j : Nat) (p q : Plan)
  | nil
def Plan.js : Plan → List Nat
  | .alt j _ q => j :: q.js
  | _ => []
def isQ (o : Oper) : Bool :=
  match o.op with
  | .move _ | .assign _ | .pick .. | .build .. | .binOp .. | .unOp .. | .fieldAddr .. | .field .. | .indexAddr .. | .index .. | .extract .. | .makeFunc .. | .nilCheck _ | .makeInterface .. => true
  | .call c => (match c.callee with | .builtin .len => true | _ => false)
  | _ => false
def isL (o : Oper) : Bool := match o.op with | .load .. | .convert .. => true | _ => false
def tame (o : Oper) : Bool := isQ o || isL o
/-- what waits for j (D), and all else that has not come up leaves the world as it is -/
def okLoad (ops : Array Oper) (li : Array Bool) (j : Nat) (D : List Nat) : Bool :=
  D.all (fun k => !(li.getD k true) && ((ops[k]?).map fun o => o.after.any fun e => Region.binds .any e && (e.on == j || D.contains e.on)).getD false) &&
  (List.range ops.size).all fun k => k == j || li.getD k true || D.contains k || ((ops[k]?).map tame).getD true
/-- what makes new blocks alone, or appends to a row of some type -/
def growT (kb : Bool) (o : Oper) : Option (Option TypeId) :=
  bif kb && isCallC o then some none else
  match o.op with
  | .alloc _ | .buildSlice .. => some none
  | .call c => (match c.callee, c.args.toList, c.argTypes.toList with | .builtin .append, [_, _], [t, _] => some (some t) | _, _, _ => none)
  | _ => none
def okLoad2 (kb : Bool) (ops : Array Oper) (li : Array Bool) (j : Nat) (D ts : List Nat) : Bool :=
  D.all (fun k => !(li.getD k true) && ((ops[k]?).map fun o => o.after.any fun e => Region.binds .any e && (e.on == j || D.contains e.on)).getD false) &&
  (List.range ops.size).all fun k => k == j || li.getD k true || D.contains k || ((ops[k]?).map fun o => tame o || (match growT kb o with | some none => true | some (some t) => ts.contains t | none => false)).getD true
def okPlan (kb : Bool) (ops : Array Oper) : Plan → Array Bool → Nat → Bool
  | .done, li, _ => (Region.ready .any ops li).isEmpty
  | .first j p, li, f + 1 => Region.noSelect ops && Region.free .any ops li j && (Region.ready .any ops li).contains j && ((ops[j]?).map isQ).getD false && okPlan kb ops p (li.setIfInBounds j true) f
  | .load j D p, li, f + 1 => Region.noSelect ops && Region.free .any ops li j && (Region.ready .any ops li).contains j && ((ops[j]?).map tame).getD false && okLoad ops li j D && okPlan kb ops p (li.setIfInBounds j true) f
  | .ld2 j D ts p, li, f + 1 => Region.noSelect ops && Region.free .any ops li j && (Region.ready .any ops li).contains j && ((ops[j]?).map isL).getD false && okLoad2 kb ops li j D ts && okPlan kb ops p (li.setIfInBounds j true) f
  | .alt j p q, li, f + 1 => (Region.ready .any ops li == j :: q.js) && okPlan kb ops p (li.setIfInBounds j true) f && alts q li f
  | _, _, _ => false
where alts : Plan → Array Bool → Nat → Bool
  | .alt j p q, li, f => okPlan kb ops p (li.setIfInBounds j true) f && alts q li f
  | _, _, _ => true
/-- one way, and another one -/
structure Both (A B : Prop) : Prop where
  l : A
  r : B
/-- the plans, and the temporaries that are kept from region to region -/
structure Plans where
  l : List (Nat × Plan) := []
  keep : List Nat
  N : Nat
def getPlan : List (Nat × Plan) → Nat → Plan
  | [], _ => .nil
  | (i, p) :: l, j => bif Nat.beq i j then p else getPlan l j
def Plans.get (p : Plans) (j : Nat) : Plan := getPlan p.l j
/-- whether calls are to leave cells as they are -/
def Plan.kb : Plan → Bool
  | .kc _ => true
  | _ => false
def Plan.top : Plan → Plan
  | .kc p => p
  | p => p
def pin : List (Nat × V) → Nat → V
  | [], _ => .d .no
  | (j, x) :: l, i => bif Nat.beq i j then x else pin l i
def hpin (l : List (Option Ob)) (b : Nat) : Option Ob := match l[b]? with | some o => o | none => none
def frcT (t : Nat → V) : List Nat → (List (Nat × V) → Prop) → Prop
  | [], K => K []
  | i :: l, K => fV (t i) fun x => match x with
    | .d .no => frcT t l K
    | .d (.v (.tuple _)) => frcT t l K
    | x => frcT t l fun l => K ((i, x) :: l)
def frcH (h : Hp) : Nat → List (Option Ob) → (List (Option Ob) → Prop) → Prop
  | 0, acc, K => K acc
  | b + 1, acc, K => fO (h b) fun o => frcH h b (o :: acc) K
def frcP (keep : List Nat) (N : Nat) (s : St) (K : St → Prop) : Prop := chk (Nat.beq s.N N) <| fN lits s.lo fun lo => frcT s.t keep fun tl => frcH s.h s.n [] fun hl => fN lits hl.length fun n => K { t := pin tl, N, h := hpin hl, n, lo }
theorem frcT_ok {t : Nat → V} : ∀ {l : List Nat} {K : List (Nat × V) → Prop}, frcT t l K → ∃ tl, (∀ i, pin tl i = .d .no ∨ pin tl i = t i) ∧ K tl
  | [], K, h => ⟨[], fun _ => .inl rfl, h⟩
  | i :: l, K, h => by
    unfold frcT at h
    rw [fV_iff] at h
    split at h
    · exact frcT_ok h
    · exact frcT_ok h
    · obtain ⟨tl, h1, h2⟩ := frcT_ok h
      refine ⟨_, fun j => ?_, h2⟩
      unfold pin
      by_cases e : j = i
      · subst e
        simp
      · have : Nat.beq j i = false := beq_ne e
        rw [this]
        exact h1 j
theorem frcH_ok {h : Hp} : ∀ {b : Nat} {acc : List (Option Ob)} {K : List (Option Ob) → Prop}, frcH h b acc K → K ((List.range b).map h ++ acc)
  | 0, acc, K, hk => by simpa [frcH] using hk
  | b + 1, acc, K, hk => by
    unfold frcH at hk
    rw [fO_iff] at hk
    have := frcH_ok hk
    rwa [List.range_succ, List.map_append, List.append_assoc]
/-- what is known may be told otherwise, or forgotten -/
structure Wk (s s' : St) : Prop where
  tol : ∀ n₀ w₀ S₀ S σ fr a w, SR n₀ w₀ S₀ S σ s fr a w → ∃ S' σ', SR n₀ w₀ S₀ S' σ' s' fr a w
theorem Wk.less {s : St} {t : Nat → V} {h : Hp} (ht : ∀ i, t i = .d .no ∨ t i = s.t i) (hh : ∀ b, h b = none ∨ h b = s.h b) : Wk s { t, N := s.N, h, n := s.n, lo := s.lo } := by
  refine ⟨fun n₀ w₀ S₀ S σ fr a w H => ⟨S, σ, ⟨H.h.old, H.h.le0, H.h.gl, H.h.s0, H.h.sS, fun b o hb => ?_, fun p hp i => ?_, fun b b' o o' hb hb' => ?_, fun b o hb => ?_, fun p hp d hd => ?_, H.h.nd, fun b hb => ⟨?_, (H.h.fresh b hb).2⟩⟩, H.lo, H.lon, H.N, H.d⟩⟩
  · rcases hh b with e | e
    · have hb : h b = some o := hb
      rw [e] at hb; cases hb
    · exact H.h.bx b o (by rw [← e]; exact hb)
  · rcases List.mem_cons.1 hp with rfl | hp
    · rcases ht i with e | e
      · simp only [e]; exact .d (.no _)
      · simp only [e]; exact H.h.fr _ List.mem_cons_self i
    · exact H.h.fr p (List.mem_cons_of_mem _ hp) i
  · have k1 : s.h b = some o := by
      rcases hh b with e | e
      · have hb : h b = some o := hb
        rw [e] at hb; cases hb
      · rw [← e]; exact hb
    have k2 : s.h b' = some o' := by
      rcases hh b' with e | e
      · have hb' : h b' = some o' := hb'
        rw [e] at hb'; cases hb'
      · rw [← e]; exact hb'
    exact H.h.sep b b' o o' k1 k2
  · have k1 : s.h b = some o := by
      rcases hh b with e | e
      · have hb : h b = some o := hb
        rw [e] at hb; cases hb
      · rw [← e]; exact hb
    exact H.h.un b o k1
  · have hp' : ∃ q, q ∈ (⟨s.t, a.tmps, none, dsOf a.defers⟩ :: fr : List Fr) ∧ d ∈ q.ds := by
      rcases List.mem_cons.1 hp with rfl | hp
      · exact ⟨_, List.mem_cons_self, hd⟩
      · exact ⟨p, List.mem_cons_of_mem _ hp, hd⟩
    obtain ⟨q, hq, hdq⟩ := hp'
    obtain ⟨d1, d2, d3, d4⟩ := H.h.ds q hq d hdq
    refine ⟨d1, d2, d3, fun b o u hb => ?_⟩
    rcases hh b with e | e
    · have hb : h b = some o := hb
      rw [e] at hb; cases hb
    · exact d4 b o u (by rw [← e]; exact hb)
  · rcases hh b with e | e
    · exact e
    · show h b = none
      rw [e]; exact (H.h.fresh b hb).1
theorem frc_ok {keep : List Nat} {N : Nat} {s : St} {K : St → Prop} (hk : frcP keep N s K) : ∃ s', Wk s s' ∧ K s' := by
  replace hk := chk_iff.1 hk
  obtain ⟨hN, hk⟩ := hk
  obtain rfl := Nat.eq_of_beq_eq_true hN
  rw [fN_iff] at hk
  obtain ⟨tl, h1, h2⟩ := frcT_ok hk
  have h3 := frcH_ok h2
  rw [fN_iff] at h3
  refine ⟨_, ?_, h3⟩
  have e : ((List.range s.n).map s.h ++ []).length = s.n := by simp
  rw [e]
  refine Wk.less h1 fun b => ?_
  unfold hpin
  by_cases hb : b < s.n
  · right
    simp [hb]
  · left
    have : ((List.range s.n).map s.h ++ [])[b]? = none := List.getElem?_eq_none_iff.2 (by simp; omega)
    rw [this]
section
variable (P : Program) (T : Tab) (rd : Bool) (pl : Plans)
/-- an operation with its guard -/
def grdP (ops : List Oper) (o : Oper) (s : St) (A B : Prop) : Prop :=
  match o.guard with
  | none => A
  | some (j, want) => match (ops[j]?).bind (·.dst) with
    | none => False
    | some t => chk (Nat.blt t s.N) <| match s.t t with
      | .d (.v (.bool b)) => (b = want → A) ∧ (b ≠ want → B)
      | .d (.v (.tuple _)) => B
      | _ => False
def stepP (ops : List Oper) (o : Oper) (s : St) (K : St → Prop) : Prop := grdP ops o s (opP P T o s K) (K (s.put o.dst (.imm undef)))
def regP (ops : List Oper) : List Oper → St → (St → Prop) → Prop
  | [], s, K => K s
  | o :: l, s, K => stepP P T ops o s (fun s => regP ops l s K)
/-- a load out of cells that are of none of some types -/
def ldOk (ts : List Nat) (s : St) (o : Oper) : Bool :=
  match o.op with
  | .load _ x => (match s.ev x with
    | .pt b _ => (match s.h b with
      | some (.st t₀ _) => ts.all fun t => match elT T t with | some e => !(Nat.beq e t₀) | none => false
      | _ => false)
    | _ => false)
  | _ => false
def stepG (kb : Bool) (ops : List Oper) (o : Oper) (s : St) (K : St → Prop) : Prop := bif kb && isCallC o then grdP ops o s (callK P o s K) (K (s.put o.dst (.imm undef))) else stepP P T ops o s K
def noDef (ops : Array Oper) : Bool := ops.toList.all fun o => match o.op with | .defer _ => false | _ => true
def planP (kb : Bool) (ops : List Oper) : Plan → St → (St → Prop) → Prop
  | .done, s, K => K s
  | .nil, _, _ => True
  | .kc _, _, _ => False
  | .first j p, s, K => match ops[j]? with | none => False | some o => stepP P T ops o s (fun s => planP kb ops p s K)
  | .load j _ p, s, K => match ops[j]? with | none => False | some o => stepP P T ops o s (fun s => planP kb ops p s K)
  | .ld2 j _ ts p, s, K => match ops[j]? with | none => False | some o => chk (ldOk T ts s o) (stepP P T ops o s (fun s => planP kb ops p s K))
  | .alt j p q, s, K => Both (match ops[j]? with | none => False | some o => stepG P T kb ops o s (fun s => planP kb ops p s K)) (planP kb ops q s K)
def condP (x : V) (A B : Prop) : Prop :=
  match x with
  | .d (.v (.bool b)) => (b = true → A) ∧ (b = false → B)
  | _ => False
def loopP (B : St → (Exit → St → Prop) → Prop) : Nat → St → (Exit → St → Prop) → Prop
  | 0, _, _ => False
  | n + 1, s, Q => ∃ s', Wk s s' ∧ B s' (fun e s => match e with | .normal => loopP B n s Q | e => Q e s)
/-- a range over a function, whose loop is box s.n -/
def rngR (b : Nat) (s : St) (Q : Exit → St → Prop) (_ : V) (h : Hp) (n : Nat) : Prop :=
  match h b with
  | some (.lp st pend _ _ _ _ _) => chk (!(st == .busy)) <| match pend with
    | none => Q .normal { s with h := kil h b, n := n }
    | some .ret => Q .ret { s with h := kil h b, n := n }
    | some (.exit i) => Q (.exit i) { s with h := kil h b, n := n }
    | some (.goto i) => Q (.goto i) { s with h := kil h b, n := n }
    | _ => False
  | _ => False
def rngP (g : V) (ps : Array Tmp) (asg bd : Code) (s : St) (Q : Exit → St → Prop) : Prop :=
  match g with
  | .fn p caps => Hc P p (.yl s.n :: caps) (upd s.h s.n (.lp .ready none s.t s.N ps asg bd)) (s.n + 1) (rngR s.n s Q)
  | .d (.fn p caps) => Hc P p (.yl s.n :: caps.map .d) (upd s.h s.n (.lp .ready none s.t s.N ps asg bd)) (s.n + 1) (rngR s.n s Q)
  | _ => False
def wpP : Code → St → (Exit → St → Prop) → Prop
  | .skip, s, Q => Q .normal s
  | .label _, s, Q => Q .normal s
  | .ret, s, Q => Q .ret s
  | .exit i, s, Q => Q (.exit i) s
  | .goto i, s, Q => Q (.goto i) s
  | .region i ops draw, s, Q => match draw with
    | false => match pl with | ⟨_, kp, N⟩ => regP P T ops.toList ops.toList s fun s' => frcP kp N s' (Q .normal)
    | true => (noDef ops && okPlan (pl.get i).kb ops (pl.get i).top (Array.replicate ops.size false) ops.size) = true ∧ ∃ s₁, planP P T (pl.get i).kb ops.toList (pl.get i).top s (fun s' => Wk s' s₁) ∧ Q .normal s₁
  | .seq c d, s, Q => wpP c s (fun e s => match e with | .normal => wpP d s Q | e => Q e s)
  | .cond x c d, s, Q => ∃ s', Wk s s' ∧ condP (s'.ev x) (wpP c s' Q) (wpP d s' Q)
  | .block i c, s, Q => wpP c s (fun e s => match e with | .exit j => (bif Nat.beq j i then Q .normal s else Q (.exit j) s) | e => Q e s)
  | .loop c, s, Q => ∃ n, loopP (wpP c) n s Q
  | .rangeFunc g ps asg bd, s, Q => chk (!rd) (rngP P (s.ev g) ps asg bd s Q)
  | _, _, _ => False
end
section
variable {n₀ : Nat} {w₀ w w' : World} {S₀ S S' : Nat → Prop} {σ σ' : Sg} {h : Hp} {n k : Nat} {fr : List Fr} {P : Program} {T : Tab} {F : Fence} {o : Oper} {s : St} {a : Act} {K : St → Prop} {rd : Bool} {pl : Plans}
/-- exits: some state of which Q holds -/
def Gx (n₀ : Nat) (w₀ : World) (S₀ : Nat → Prop) (fr : List Fr) (Q : Exit → St → Prop) (e : Exit) (a : Act) (w : World) : Prop := Gd n₀ w₀ S₀ fr (Q e) a w ∧ (match e with | .panic _ | .outgrown => False | _ => True)
theorem op_qt (hT : TOk P T) (H : SR n₀ w₀ S₀ S σ s fr a w) (hq : isQ o = true) (hp : opP P T o s K) : Qt P S σ o s a w K := by
  unfold opP at hp
  unfold isQ at hq
  split at hp
  · rename_i x ho; exact move_ok H (.inl ho) hp
  · rename_i x ho; exact move_ok H (.inr ho) hp
  · rename_i c x y ho; exact pick_ok H ho hp
  · rename_i e ho; rw [ho] at hq; cases hq
  · rename_i e x ho; rw [ho] at hq; cases hq
  · rename_i t parts ho
    cases e : arrOf T t with
    | some p => rw [e] at hp; exact buildA_ok hT H ho e hp
    | none => rw [e] at hp; exact build_ok hT H ho hp
  · rename_i t len parts ho; rw [ho] at hq; cases hq
  · rename_i t x ho; rw [ho] at hq; cases hq
  · rename_i t x y ho; rw [ho] at hq; cases hq
  · rename_i op t x y u ho
    cases hc : isNilC y with
    | true => rw [hc] at hp; exact ifN_ok hT H ho hc hp
    | false => rw [hc] at hp; exact binN_ok hT H ho hp
  · rename_i t x ho; exact mkIf_ok hT H ho hp
  · rename_i op t x ho; exact unop_ok H ho hp
  · rename_i t u x ho; rw [ho] at hq; cases hq
  · rename_i p first c ho
    replace hp := chk_iff.1 hp
    have : first = #[] := Array.size_eq_zero_iff.1 (Nat.eq_of_beq_eq_true hp.1)
    subst this
    exact makeFunc_ok H ho hp.2
  · rename_i t x y ho; rw [ho] at hq; cases hq
  · rename_i t x lo hi mx ho; rw [ho] at hq; cases hq
  · rename_i t x i ho; exact fieldAddr_ok hT H ho hp
  · rename_i t x i ho; exact field_ok hT H ho hp
  · rename_i t x y ho
    cases e : arrOf T t with
    | some p => rw [e] at hp; exact arrA_ok hT H ho e hp
    | none => rw [e] at hp; exact indexAddr_ok hT H ho hp
  · rename_i t x y ho
    cases e : arrOf T t with
    | some p => rw [e] at hp; exact arrI_ok hT H ho e hp
    | none => rw [e] at hp; exact strIx_ok hT H ho hp
  · rename_i x i ho; exact extract_ok H ho hp
  · rename_i x ho; exact nil_ok H ho hp
  · rename_i t ho; rw [ho] at hq; cases hq
  · rename_i t x y ok ho; rw [ho] at hq; cases hq
  · rename_i t m y v ho; rw [ho] at hq; cases hq
  · rename_i t m y v ho; rw [ho] at hq; cases hq
  · rename_i c ho
    rw [ho] at hq
    dsimp only at hq
    split at hq
    · rename_i hc; exact lenq_ok hT H ho hc hp
    · cases hq
  · exact hp.elim
theorem q_about (hq : isQ o = true) (w : World) (ρ : Operand → Value) : o.about P w ρ = none := by
  unfold isQ at hq
  unfold Oper.about
  cases ho : o.op <;> rw [ho] at hq <;> first | rfl | cases hq | skip
  rename_i c
  dsimp only at hq
  split at hq
  · rename_i hc
    simp [resolve, hc, Target.leads]
  · cases hq
theorem grd_ok (H : SR n₀ w₀ S₀ S σ s fr a w) {ops : Array Oper} {A B : Prop} (hp : grdP ops.toList o s A B) : (Region.wanted o (yielded ops a.tmps) = true → A) ∧ (Region.wanted o (yielded ops a.tmps) = false → B) := by
  unfold grdP at hp
  unfold Region.wanted
  split at hp
  · rename_i hg
    rw [hg]
    exact ⟨fun _ => hp, fun h => by cases h⟩
  · rename_i j want hg
    rw [hg]
    split at hp
    · exact hp.elim
    · rename_i t ht
      replace hp := chk_iff.1 hp
      obtain ⟨hlt, hp⟩ := hp
      have hlt' : t < a.tmps.size := by rw [H.N]; rw [Nat.blt_eq] at hlt; exact hlt
      have hx := H.h.fr _ List.mem_cons_self t
      have hy : yielded ops a.tmps j = match a.tmps.getD t undef with | .bool b => some b | _ => none := by
        unfold yielded
        rw [Array.getElem?_toList] at ht
        rw [ht]
        simp only [Option.bind_some, Array.getElem?_eq_getElem hlt', Array.getD_eq_getD_getElem?, Option.getD_some]
        cases a.tmps[t] <;> rfl
      split at hp
      · rename_i b hb
        simp only [hb] at hx
        generalize hv : a.tmps.getD t undef = v at hx hy
        cases hx with
        | d hx =>
          cases hx
          simp only [hy]
          constructor
          · intro h; exact hp.1 (by simpa using h)
          · intro h; exact hp.2 (by simpa using h)
      · rename_i vs hb
        simp only [hb] at hx
        generalize hv : a.tmps.getD t undef = v at hx hy
        cases hx with
        | d hx =>
          cases hx
          simp only [hy]
          exact ⟨fun h => by simp at h, fun _ => hp⟩
      · exact hp.elim
theorem skip_put (H : SR n₀ w₀ S₀ S σ s fr a w) (dst : Option Tmp) : SR n₀ w₀ S₀ S σ (s.put dst (.imm undef)) fr (a.put dst undef) w := by
  refine ⟨?_, by rw [put_lo]; exact H.lo, by rw [put_lo, (put_hn _ _ _).2]; exact H.lon, by rw [put_size, put_N]; exact H.N, by rw [put_def]; exact H.d⟩
  rw [(put_hn _ _ _).1, (put_hn _ _ _).2]
  exact put_fr H.h H.N (.d (.v undef)) dst s.h s.n
theorem step_ok (hT : TOk P T) (hF : Free F) (H : SR n₀ w₀ S₀ S σ s fr a w) {ops : Array Oper} {i : Nat} {Q : Exit → Act → World → Prop} (ho : ops[i]? = some o) (hp : stepP P T ops.toList o s K) : wpOpIn F k P ops Q i (Gd n₀ w₀ S₀ fr K) a w := by
  unfold wpOpIn
  simp only [ho]
  obtain ⟨h1, h2⟩ := grd_ok H hp
  split
  · rename_i hw
    exact op_ok hT hF H (h1 hw)
  · rename_i hw
    exact ⟨fun f _ => hF.fn f, _, S, σ, h2 (by simpa using hw), skip_put H o.dst⟩
theorem reg_ok (hT : TOk P T) (hF : Free F) {ops : Array Oper} {Q : Exit → Act → World → Prop} (hQ : ∀ a w, Gd n₀ w₀ S₀ fr K a w → Q .normal a w) : ∀ (l : List Oper) (i : Nat) (s : St) (S : Nat → Prop) (σ : Sg) (a : Act) (w : World), ops.toList.drop i = l → SR n₀ w₀ S₀ S σ s fr a w → regP P T ops.toList l s K →
    wpOpsIn F k P ops Q (List.range' i l.length) a w
  | [], i, s, S, σ, a, w, _, H, hp => hQ a w ⟨s, S, σ, hp, H⟩
  | o :: l, i, s, S, σ, a, w, hl, H, hp => by
    have ho : ops[i]? = some o := by
      have := congrArg (·[0]?) hl
      simp only [List.getElem?_drop, Nat.add_zero, List.getElem?_cons_zero] at this
      simpa using this
    rw [List.length_cons, List.range'_succ, wpOpsIn_cons]
    refine wpOpIn_mono ?_ (step_ok hT hF H ho hp)
    rintro a' w' ⟨s', S', σ', hk, H'⟩
    refine reg_ok hT hF hQ l (i + 1) s' S' σ' a' w' ?_ H' hk
    rw [← List.tail_drop, hl]
    rfl
/-- what an operation looks at is as it was -/
structure SameFor (P : Program) (ops : Array Oper) (o : Oper) (a a' : Act) : Prop where
  ex : execOp a'.eval o = execOp a.eval o
  wt : Region.wanted o (yielded ops a'.tmps) = Region.wanted o (yielded ops a.tmps)
  ab : ∀ w, o.about P w a'.eval = o.about P w a.eval
theorem opIn_move {ops : Array Oper} {Q : Exit → Act → World → Prop} {j : Nat} {x y : Oper} {v : Value} (hro : F.round = none) (hj : ops[j]? = some y) (hap : x.apart ops y = true) (hx : ∀ cs b, x.op ≠ .select cs b) (hy : ∀ cs b, y.op ≠ .select cs b)
    (hQ : ∀ c a w, ¬ Q (.panic c) a w) {K : Act → World → Prop} {a : Act} {w : World} (h : wpOpIn F k P ops Q j K (a.put x.dst v) w) : wpOpIn F k P ops Q j (fun a' w' => SameFor P ops x a a' ∧ K (a'.put x.dst v) w') a w := by
  obtain ⟨p1, p2, p3⟩ := Oper.apart_spec hap
  have same : ∀ (l : List Deferred) (u : Value), SameFor P ops x a (({ a with defers := l } : Act).put y.dst u) := fun l u =>
    ⟨(execOp_put x hx _ y.dst u p3).trans rfl, (wanted_put x _ y.dst u p3).trans rfl, fun w => (about_put x w _ y.dst u p3).trans rfl⟩
  have put2 : ∀ (u : Value) (W : World), K ((a.put x.dst v).put y.dst u) W → K ((a.put y.dst u).put x.dst v) W := fun u W h => by rw [← Act.put_comm a v u p2]; exact h
  unfold wpOpIn at h ⊢
  simp only [hj] at h ⊢
  rw [wanted_put y a x.dst v p1, about_put y w a x.dst v p1] at h
  by_cases hw : Region.wanted y (yielded ops a.tmps) = true
  · rw [if_pos hw] at h ⊢
    unfold Oper.wpIn at h ⊢
    rw [about_put y w a x.dst v p1, hro, Oper.semAt_none, execOp_put y hy a x.dst v p1] at h
    rw [hro, Oper.semAt_none]
    obtain ⟨h1, h⟩ := h
    refine ⟨h1, ?_⟩
    revert h
    generalize (execOp a.eval y).run P w = r
    intro h
    cases r with
    | halt z w' => cases z <;> simp only [Oper.uponIn] at h ⊢ <;> first | exact h | exact absurd h (hQ _ _ _)
    | ok z w' =>
      cases z <;> simp only [Oper.uponIn] at h ⊢ <;> try exact h
      case value u => exact ⟨same a.defers u, put2 u _ h⟩
      case skip => exact ⟨same a.defers undef, put2 undef _ h⟩
      case defer d => exact ⟨same (d :: a.defers) undef, by rw [← Act.put_comm _ v undef p2, ← Act.put_defers]; exact h⟩
      case enter f args => exact ⟨h.1, CallsIn.mono h.2 fun e w'' he => by
        cases e with
        | returned u => exact ⟨same a.defers u, put2 u _ he⟩
        | panicked c => exact absurd he (hQ _ _ _)
        | outgrown => exact he⟩
      case row row args => exact ⟨h.1, RowsIn.mono h.2 fun u w'' he => ⟨same a.defers u, put2 u _ he⟩⟩
      case round l f tmps assign body => exact ⟨h.1, RoundIn.mono h.2 fun e w'' he => by
        cases e with
        | returned u => exact ⟨same a.defers u, put2 u _ he⟩
        | panicked c => exact absurd he (hQ _ _ _)
        | outgrown => exact he⟩
  · rw [if_neg hw] at h ⊢
    exact ⟨h.1, same a.defers undef, put2 undef _ h.2⟩
/-- what an operation leaves as it is -/
def Gr (kb : Bool) (T : Tab) (o : Oper) (w w' : World) : Prop :=
  match growT kb o with
  | none => True
  | some none => Kp none w w'
  | some (some t) => Kp (elT T t) w w'
theorem Gr.refl (kb : Bool) (T : Tab) (o : Oper) (w : World)   : Gr kb T o w w := by
  unfold Gr
  split
  · trivial
  · exact .refl _ _
  · exact .refl _ _
def Kt (kb : Bool) (T : Tab) (ops : Array Oper) (i : Nat) (w w' : World) : Prop := (((ops[i]?).map tame).getD true = true → w' = w) ∧ ∀ o, ops[i]? = some o → Gr kb T o w w'
theorem Kt.refl (kb : Bool) (T : Tab) (ops : Array Oper) (i : Nat) (w : World) : Kt kb T ops i w w := ⟨fun _ => rfl, fun o _ => .refl kb T o w⟩
/-- whatever order is drawn; and what is tame leaves the world as it is -/
def wpAnyT (kb : Bool) (T : Tab) (F : Fence) (k : Nat) (P : Program) (ops : Array Oper) (Q : Exit → Act → World → Prop) : Nat → Array Bool → Act → World → Prop
  | 0, li, a, w => Region.ready .any ops li = [] ∧ Q .normal a w
  | fuel + 1, li, a, w => (Region.ready .any ops li = [] → Q .normal a w) ∧ ∀ i ∈ Region.ready .any ops li, wpOpIn F k P ops Q i (fun a' w' => Kt kb T ops i w w' ∧ wpAnyT kb T F k P ops Q fuel (li.setIfInBounds i true) a' w') a w
theorem anyT {kb : Bool} {ops : Array Oper} {Q : Exit → Act → World → Prop} : ∀ (fuel : Nat) (li : Array Bool) (a : Act) (w : World), wpAnyT kb T F k P ops Q fuel li a w → wpAnyIn F k P .any ops Q fuel li a w
  | 0, _, _, _, h => h
  | fuel + 1, _, _, _, h => ⟨h.1, fun i hi => wpOpIn_mono (fun a w h => anyT fuel _ a w h.2) (h.2 i hi)⟩
theorem anyT_done {kb : Bool} {ops : Array Oper} {Q : Exit → Act → World → Prop} {li : Array Bool} (hr : Region.ready .any ops li = []) (h : Q .normal a w) : ∀ f, wpAnyT kb T F k P ops Q f li a w
  | 0 => ⟨hr, h⟩
  | _ + 1 => ⟨fun _ => h, by rw [hr]; simp⟩
theorem opIn_val {ops : Array Oper} {Q : Exit → Act → World → Prop} {i : Nat} {v : Value} {K : Act → World → Prop} (hro : F.round = none) (ho : ops[i]? = some o) (hab : o.about P w a.eval = none)
    (hy : (Region.wanted o (yielded ops a.tmps) = true ∧ (execOp a.eval o).run P w = .ok (.value v) w) ∨ (Region.wanted o (yielded ops a.tmps) = false ∧ v = undef)) (h : K (a.put o.dst v) w) : wpOpIn F k P ops Q i K a w := by
  unfold wpOpIn
  simp only [ho]
  have hab' : ∀ f, o.about P w a.eval = some f → F.fn f := fun f hf => by rw [hab] at hf; cases hf
  rcases hy with ⟨hw, hv⟩ | ⟨hw, rfl⟩
  · rw [if_pos hw]
    unfold Oper.wpIn
    rw [hro, Oper.semAt_none, hv]
    exact ⟨hab', h⟩
  · rw [if_neg (by rw [hw]; simp)]
    exact ⟨hab', h⟩
/-- what may come up, and yields one value in every world that may be there when it does, may be taken first -/
theorem anyT_first {kb : Bool} {ops : Array Oper} {Q : Exit → Act → World → Prop} {i : Nat} {v : Value} (C : World → Prop) (D : List Nat) (hro : F.round = none) (hi : ops[i]? = some o) (hti : tame o = true) (hsel : Region.noSelect ops = true) (hQ : ∀ c a w, ¬ Q (.panic c) a w) :
    ∀ (fuel : Nat) (li : Array Bool) (a : Act) (w : World), (∀ j oj, ops[j]? = some oj → j ≠ i → li.getD j true = false → (∀ e ∈ oj.after, Region.binds .any e = true → e.on ≠ i) → o.apart ops oj = true) →
      (∀ j ∈ D, li.getD j true = false ∧ ∃ oj, ops[j]? = some oj ∧ ∃ e ∈ oj.after, Region.binds .any e = true ∧ (e.on = i ∨ e.on ∈ D)) → (∀ j, j ≠ i → li.getD j true = false → j ∉ D → ∀ w w', Kt kb T ops j w w' → C w → C w') →
      i ∈ Region.ready .any ops li → (∀ w, o.about P w a.eval = none) → ((Region.wanted o (yielded ops a.tmps) = true ∧ ∀ w, C w → (execOp a.eval o).run P w = .ok (.value v) w) ∨ (Region.wanted o (yielded ops a.tmps) = false ∧ v = undef)) → C w →
      wpAnyT kb T F k P ops Q fuel (li.setIfInBounds i true) (a.put o.dst v) w → wpAnyT kb T F k P ops Q (fuel + 1) li a w := by
  intro fuel
  induction fuel with
  | zero =>
    intro li a w _ _ _ hr hab hy hC H
    refine ⟨fun h => (by rw [h] at hr; cases hr), fun j hj => ?_⟩
    by_cases hji : j = i
    · subst hji
      exact opIn_val hro hi (hab w) (hy.imp (fun ⟨h1, h2⟩ => ⟨h1, h2 w hC⟩) id) ⟨.refl _ _ _ _ _, H⟩
    · have := ready_mono hj hji
      rw [H.1] at this
      cases this
  | succ fuel ih =>
    intro li a w hfree hD htm hr hab hy hC H
    refine ⟨fun h => (by rw [h] at hr; cases hr), fun j hj => ?_⟩
    by_cases hji : j = i
    · subst hji
      exact opIn_val hro hi (hab w) (hy.imp (fun ⟨h1, h2⟩ => ⟨h1, h2 w hC⟩) id) ⟨.refl _ _ _ _ _, H⟩
    · have h1 := H.2 j (ready_mono hj hji)
      obtain ⟨hjun, oj, hoj, hall⟩ := mem_ready.1 hj
      have unl : ∀ m, li.getD m true = false → ¬ li.getD m false = true := fun m hm hm' => by
        rcases Nat.lt_or_ge m li.size with h' | h'
        · simp [h'] at hm hm'; rw [hm] at hm'; cases hm'
        · simp [Array.getElem?_eq_none h'] at hm'
      have hnot : ∀ e ∈ oj.after, Region.binds .any e = true → e.on ≠ i := fun e he hb heq => by
        have h1 := hall e he hb
        rw [heq] at h1
        exact unl i (mem_ready.1 hr).1 h1
      have hjD : j ∉ D := fun hm => by
        obtain ⟨_, oj', ho', e, he, hb, hon⟩ := hD j hm
        rw [hoj] at ho'
        cases ho'
        rcases hon with hon | hon
        · exact hnot e he hb hon
        · exact unl e.on (hD e.on hon).1 (hall e he hb)
      have h2 := opIn_move hro hoj (hfree j oj hoj hji hjun hnot) (fun cs b => Region.noSelect_spec hsel i o cs b hi) (fun cs b => Region.noSelect_spec hsel j oj cs b hoj) hQ h1
      refine wpOpIn_mono (fun a' w' ⟨sm, hw, h3⟩ => ⟨hw, ih (li.setIfInBounds j true) a' w' ?_ ?_ ?_ (ready_mono hr (Ne.symm hji)) (fun W => by rw [sm.ab W]; exact hab W) ?_ ?_ ?_⟩) h2
      · intro m om hm hmi hun hno
        refine hfree m om hm hmi ?_ hno
        by_cases hjm : j = m
        · subst hjm; exact hjun
        · rw [getD_set_ne true hjm] at hun; exact hun
      · intro m hm
        obtain ⟨g1, g2⟩ := hD m hm
        exact ⟨by rw [getD_set_ne true (fun e => hjD (by rw [e]; exact hm))]; exact g1, g2⟩
      · refine fun m hmi hun hmD => htm m hmi ?_ hmD
        by_cases hjm : j = m
        · subst hjm; exact hjun
        · rw [getD_set_ne true hjm] at hun; exact hun
      · rw [sm.ex, sm.wt]
        exact hy
      · exact htm j hji hjun hjD w w' hw hC
      · rw [Array.setIfInBounds_comm _ _ hji]
        exact h3
theorem okLoad_spec {ops : Array Oper} {li : Array Bool} {j : Nat} {D : List Nat} (h : okLoad ops li j D = true) : (∀ m ∈ D, li.getD m true = false ∧ ∃ om, ops[m]? = some om ∧ ∃ e ∈ om.after, Region.binds .any e = true ∧ (e.on = j ∨ e.on ∈ D)) ∧
    ∀ m, m ≠ j → li.getD m true = false → m ∉ D → ((ops[m]?).map tame).getD true = true := by
  unfold okLoad at h
  rw [Bool.and_eq_true, List.all_eq_true, List.all_eq_true] at h
  obtain ⟨h1, h2⟩ := h
  constructor
  · intro m hm
    have h3 := h1 m hm
    rw [Bool.and_eq_true] at h3
    refine ⟨by simpa using h3.1, ?_⟩
    cases e : ops[m]? with
    | none => rw [e] at h3; simp at h3
    | some om =>
      rw [e] at h3
      have h4 := h3.2
      simp only [Option.map_some, Option.getD_some, Array.any_eq_true, Bool.and_eq_true, Bool.or_eq_true, beq_iff_eq, List.contains_eq_mem, decide_eq_true_eq] at h4
      obtain ⟨q, hq, hb1, hb2⟩ := h4
      exact ⟨om, rfl, om.after[q], Array.getElem_mem hq, hb1, hb2⟩
  · intro m hmj hun hmD
    cases e : ops[m]? with
    | none => rfl
    | some om =>
      have h3 := h2 m (List.mem_range.2 (Array.getElem?_eq_some_iff.1 e).1)
      simp only [hun, e, Bool.or_eq_true, beq_iff_eq, hmj, List.contains_eq_mem, decide_eq_true_eq, hmD, Bool.false_eq_true, false_or, or_false] at h3
      exact h3
theorem okLoad2_spec {kb : Bool} {ops : Array Oper} {li : Array Bool} {j : Nat} {D : List Nat} {ts : List Nat} (h : okLoad2 kb ops li j D ts = true) : (∀ m ∈ D, li.getD m true = false ∧ ∃ om, ops[m]? = some om ∧ ∃ e ∈ om.after, Region.binds .any e = true ∧ (e.on = j ∨ e.on ∈ D)) ∧
    ∀ m, m ≠ j → li.getD m true = false → m ∉ D → ∀ o, ops[m]? = some o → tame o = true ∨ growT kb o = some none ∨ ∃ t, t ∈ ts ∧ growT kb o = some (some t) := by
  unfold okLoad2 at h
  rw [Bool.and_eq_true, List.all_eq_true, List.all_eq_true] at h
  obtain ⟨h1, h2⟩ := h
  constructor
  · intro m hm
    have h3 := h1 m hm
    rw [Bool.and_eq_true] at h3
    refine ⟨by simpa using h3.1, ?_⟩
    cases e : ops[m]? with
    | none => rw [e] at h3; simp at h3
    | some om =>
      rw [e] at h3
      have h4 := h3.2
      simp only [Option.map_some, Option.getD_some, Array.any_eq_true, Bool.and_eq_true, Bool.or_eq_true, beq_iff_eq, List.contains_eq_mem, decide_eq_true_eq] at h4
      obtain ⟨q, hq, hb1, hb2⟩ := h4
      exact ⟨om, rfl, om.after[q], Array.getElem_mem hq, hb1, hb2⟩
  · intro m hmj hun hmD
    intro o e
    have h3 := h2 m (List.mem_range.2 (Array.getElem?_eq_some_iff.1 e).1)
    simp only [hun, e, Option.map_some, Option.getD_some, Bool.or_eq_true, beq_iff_eq, hmj, List.contains_eq_mem, decide_eq_true_eq, hmD, Bool.false_eq_true, false_or, or_false] at h3
    rcases h3 with h3 | h3
    · exact .inl h3
    · split at h3
      · rename_i hg; exact .inr (.inl hg)
      · rename_i t hg; exact .inr (.inr ⟨t, by simpa using h3, hg⟩)
      · cases h3
/-- what is tame yields its value, and leaves the world as it is -/
theorem op_q1 (hT : TOk P T) (H : SR n₀ w₀ S₀ S σ s fr a w) (ht : tame o = true) (hp : opP P T o s K) : Q1 P S σ o s a w K := by
  unfold tame at ht
  rw [Bool.or_eq_true] at ht
  by_cases hq : isQ o = true
  · obtain ⟨v, x, e1, e2, e3⟩ := op_qt hT H hq hp
    exact ⟨v, x, e1 w, e2, e3⟩
  · have hl := ht.resolve_left hq
    unfold isL at hl
    split at hl
    · rename_i t x ho
      unfold opP at hp
      rw [ho] at hp
      obtain ⟨v, y, e1, e2, e3, _⟩ := loadP_val hT H.h (H.ev x) hp
      exact ⟨v, y, by simp [execOp, ho, e1], e2, e3⟩
    · rename_i t u x ho
      unfold opP at hp
      rw [ho] at hp
      exact convA_q1 hT H ho hp
    · cases hl
theorem tame_about (ht : tame o = true) (w : World) (ρ : Operand → Value) : o.about P w ρ = none := by
  unfold tame at ht
  rw [Bool.or_eq_true] at ht
  by_cases hq : isQ o = true
  · exact q_about hq w ρ
  · have hl := ht.resolve_left hq
    unfold isL at hl
    split at hl
    · rename_i ho
      unfold Oper.about
      rw [ho]
    · rename_i ho
      unfold Oper.about
      rw [ho]
    · cases hl
theorem SR.putv (H : SR n₀ w₀ S₀ S σ s fr a w) {x : V} {v : Value} (hx : Vr w S σ x v) (dst : Option Tmp) : SR n₀ w₀ S₀ S σ (s.put dst x) fr (a.put dst v) w := by
  refine ⟨?_, by rw [put_lo]; exact H.lo, by rw [put_lo, (put_hn _ _ _).2]; exact H.lon, by rw [put_size, put_N]; exact H.N, by rw [put_def]; exact H.d⟩
  rw [(put_hn _ _ _).1, (put_hn _ _ _).2]
  exact put_fr H.h H.N hx dst s.h s.n
/-- what makes blocks -/
theorem grow_op (hT : TOk P T) (H : SR n₀ w₀ S₀ S σ s fr a w) (hp : opP P T o s K) : match growT false o with | none => True | some none => GrowR P n₀ w₀ S₀ o s fr a w K none | some (some t) => GrowR P n₀ w₀ S₀ o s fr a w K (elT T t) := by
  cases hq : growT false o with
  | none => trivial
  | some q =>
  unfold growT at hq
  rw [Bool.false_and, cond_false] at hq
  split at hq
  · rename_i e ho
    cases hq
    unfold opP at hp
    rw [ho] at hp
    exact alloc_gr hT H ho hp
  · rename_i t len parts ho
    cases hq
    unfold opP at hp
    rw [ho] at hp
    dsimp only at hp
    cases hc : (Nat.beq len 0 && parts.toList.isEmpty) with
    | false => rw [hc] at hp; exact buildSlice_gr hT H ho hp
    | true =>
      rw [hc] at hp
      rw [Bool.and_eq_true] at hc
      obtain rfl := Nat.eq_of_beq_eq_true hc.1
      exact empty_gr hT H ho (List.isEmpty_iff.1 hc.2) hp
  · rename_i c ho
    split at hq
    · rename_i x y t u hc h1 h2
      cases hq
      have ha : c.args = #[x, y] := Array.ext' h1
      have ht : c.argTypes = #[t, u] := Array.ext' h2
      unfold opP at hp
      rw [ho] at hp
      dsimp only at hp
      unfold callP at hp
      rw [hc, ha, ht] at hp
      dsimp only at hp
      replace hp := chk_iff.1 hp
      obtain ⟨htu, hp⟩ := hp
      obtain rfl := Nat.eq_of_beq_eq_true htu
      obtain ⟨r, w', σ', h', n', x', hk, hr, H', hx', hn, hkp⟩ := app_run (ty := o.type) hT H.h (H.ev x) (H.ev y) hp
      exact ⟨r, w', h', n', S, σ', x', by simp [execOp, ho, resolve, hc, ha, ht, invoke, builtin, hr], H', by have := H.lon; omega, hx', hk, hkp⟩
    · cases hq
  · cases hq
theorem step_gr {kb : Bool} (hT : TOk P T) (hF : Free F) (H : SR n₀ w₀ S₀ S σ s fr a w) {ops : Array Oper} {i : Nat} {Q : Exit → Act → World → Prop} (ho : ops[i]? = some o) (hp : stepG P T kb ops.toList o s K) : wpOpIn F k P ops Q i (fun a' w' => Gr kb T o w w' ∧ Gd n₀ w₀ S₀ fr K a' w') a w := by
  unfold stepG at hp
  cases hkb : (kb && isCallC o) with
  | true =>
    rw [hkb, cond_true] at hp
    have eg : growT kb o = some none := by unfold growT; rw [hkb]; rfl
    unfold wpOpIn
    simp only [ho]
    obtain ⟨h1, h2⟩ := grd_ok H hp
    split
    · rename_i hw
      refine Oper.wpIn_mono (fun a' w' h => ⟨?_, h.2⟩) (callK_ok hF H (h1 hw))
      unfold Gr; rw [eg]; exact h.1
    · rename_i hw
      exact ⟨fun f _ => hF.fn f, .refl kb T o w, _, S, σ, h2 (by simpa using hw), skip_put H o.dst⟩
  | false =>
  rw [hkb, cond_false] at hp
  have egk : growT kb o = growT false o := by unfold growT; rw [hkb, Bool.false_and]
  unfold Gr
  rw [egk]
  unfold wpOpIn
  simp only [ho]
  obtain ⟨h1, h2⟩ := grd_ok H hp
  split
  · rename_i hw
    have hg := grow_op hT H (h1 hw)
    have hd : growT false o ≠ none → ∀ c, o.op ≠ .defer c := fun h c hc => h (by unfold growT; rw [Bool.false_and, cond_false, hc])
    cases e : growT false o with
    | none =>
      refine Oper.wpIn_mono (fun a' w' h => ⟨?_, h⟩) (op_ok hT hF H (h1 hw))
      trivial
    | some q =>
      cases q with
      | none =>
        rw [e] at hg
        refine Oper.wpIn_mono (fun a' w' h => ⟨?_, h.2⟩) (GrowR.ok hF (hd (by rw [e]; simp)) H hg)
        exact h.1
      | some t =>
        rw [e] at hg
        refine Oper.wpIn_mono (fun a' w' h => ⟨?_, h.2⟩) (GrowR.ok hF (hd (by rw [e]; simp)) H hg)
        exact h.1
  · rename_i hw
    refine ⟨fun f _ => hF.fn f, ?_, _, S, σ, h2 (by simpa using hw), skip_put H o.dst⟩
    have := Gr.refl false T o w
    unfold Gr at this
    exact this
/-- a load out of cells whose block stays -/
theorem ld_same (hT : TOk P T) (H : SR n₀ w₀ S₀ S σ s fr a w) {ts : List Nat} (hl : ldOk T ts s o = true) (hp : opP P T o s K) : ∃ (v : Value) (y : V) (g : Nat) (c : Array Value) (t : TypeId) (z : Nat × Nat), w.heap[g]? = some (Obj.cells c t z) ∧ (∀ q, q ∈ ts → elT T q ≠ some t) ∧ (∀ W : World, W.heap[g]? = w.heap[g]? → (execOp a.eval o).run P W = .ok (.value v) W) ∧ Vr w S σ y v ∧ K (s.put o.dst y) := by
  unfold ldOk at hl
  split at hl
  · rename_i t x ho
    split at hl
    · rename_i b off hb
      split at hl
      · rename_i t₀ l hh
        have hx := H.ev x
        rw [hb] at hx
        unfold opP at hp
        rw [ho] at hp
        dsimp only at hp
        rw [hb] at hp
        unfold loadP at hp
        split at hp
        · exact hp.elim
        rename_i r hr
        dsimp only at hp
        rw [hh] at hp
        dsimp only at hp
        generalize hv : a.eval x = v at hx
        cases hx with
        | pt u hu hg =>
          obtain ⟨g', cs, h1, h2, h3, h4, h5⟩ := H.h.bx b _ hh
          rw [hu] at h1
          cases h1
          cases hg
          have hcell : ∀ W : World, W.heap[g']? = w.heap[g']? → ∀ (i : Nat) u, cs.toList[i]? = some u → W.cell? ⟨g', 0 + i, none⟩ = some u := fun W hW i u hi => by
            rw [Nat.zero_add, cell_of_row W _ _ cs t₀ _ (hW.trans h3)]; simpa using hi
          have hts : ∀ q, q ∈ ts → elT T q ≠ some t₀ := fun q hq he => by
            have := List.all_eq_true.1 hl q hq
            rw [he] at this
            simp at this
          cases ha : r.agg with
          | true =>
            rw [ha] at hp
            replace hp := chk_iff.1 hp
            obtain ⟨k1, k2⟩ := hp
            have k1 := Nat.le_of_ble_eq_true k1
            refine ⟨_, _, g', cs, t₀, _, h3, hts, fun W hW => ?_, .agg _ (h5.sub off r.size).len (by simpa using one_sub h4 off r.size) (h5.sub off r.size).at_, k2⟩
            have := (run_load' (P := P) hT hr (off := off) (hcell W hW)).1 ha (by rw [h5.len]; exact k1)
            rw [Nat.zero_add] at this
            simp [execOp, ho, hv, this]
          | false =>
            rw [ha] at hp
            obtain ⟨y, k1, k2⟩ := hp
            obtain ⟨u', hu', hyu⟩ := h5.get k1
            refine ⟨_, _, g', cs, t₀, _, h3, hts, fun W hW => ?_, hyu, k2⟩
            have := (run_load' (P := P) hT hr (off := off) (hcell W hW)).2 ha u' hu'
            rw [Nat.zero_add] at this
            simp [execOp, ho, hv, this]
      · cases hl
    · cases hl
  · cases hl
theorem callC_tame (ht : tame o = true) : isCallC o = false := by
  unfold tame at ht
  rw [Bool.or_eq_true] at ht
  unfold isCallC
  split
  · rename_i c ho
    split
    · rename_i f hc
      rcases ht with ht | ht
      · unfold isQ at ht; rw [ho] at ht; dsimp only at ht; rw [hc] at ht; cases ht
      · unfold isL at ht; rw [ho] at ht; cases ht
    · rfl
  · rfl
theorem plan_ok {kb : Bool} (hT : TOk P T) (hF : Free F) (hrd : F.round = none) {ops : Array Oper} {Q : Exit → Act → World → Prop} (hQ : ∀ a w, Gd n₀ w₀ S₀ fr K a w → Q .normal a w) (hQp : ∀ c a w, ¬ Q (.panic c) a w) :
    ∀ (p : Plan), (∀ (li : Array Bool) (f : Nat) (s : St) (S : Nat → Prop) (σ : Sg) (a : Act) (w : World), okPlan kb ops p li f = true → SR n₀ w₀ S₀ S σ s fr a w → planP P T kb ops.toList p s K → wpAnyT kb T F k P ops Q f li a w) ∧
      (∀ (li : Array Bool) (f : Nat) (s : St) (S : Nat → Prop) (σ : Sg) (a : Act) (w : World), okPlan.alts kb ops p li f = true → SR n₀ w₀ S₀ S σ s fr a w → planP P T kb ops.toList p s K → ∀ j, j ∈ p.js → wpOpIn F k P ops Q j (fun a' w' => Kt kb T ops j w w' ∧ wpAnyT kb T F k P ops Q f (li.setIfInBounds j true) a' w') a w)
  | .done => ⟨fun li f s S σ a w hok H hp => anyT_done (by simpa [okPlan] using hok) (hQ a w ⟨s, S, σ, hp, H⟩) f, fun _ _ _ _ _ _ _ _ _ _ j hj => by simp [Plan.js] at hj⟩
  | .nil => ⟨fun li f s S σ a w hok H hp => by simp [okPlan] at hok, fun _ _ _ _ _ _ _ _ _ _ j hj => by simp [Plan.js] at hj⟩
  | .kc p => ⟨fun li f s S σ a w hok H hp => by simp [okPlan] at hok, fun _ _ _ _ _ _ _ _ _ _ j hj => by simp [Plan.js] at hj⟩
  | .first j p => by
    refine ⟨fun li f s S σ a w hok H hp => ?_, fun _ _ _ _ _ _ _ _ _ _ j hj => by simp [Plan.js] at hj⟩
    cases f with
    | zero => simp [okPlan] at hok
    | succ f =>
      simp only [okPlan, Bool.and_eq_true] at hok
      obtain ⟨⟨⟨⟨k1, k2⟩, k3⟩, k4⟩, k5⟩ := hok
      simp only [planP] at hp
      split at hp
      · exact hp.elim
      · rename_i o ho
        have ho' : ops[j]? = some o := by simpa using ho
        have hq : isQ o = true := by rw [ho'] at k4; simpa using k4
        have htm : tame o = true := by unfold tame; rw [hq]; rfl
        obtain ⟨h1, h2⟩ := grd_ok H hp
        have first := fun {v : Value} => anyT_first (kb := kb) (T := T) (F := F) (k := k) (P := P) (v := v) (fun _ => True) [] hrd ho' htm k1 hQp f li a w (Region.free_spec ho' k2) (fun _ h => by cases h) (fun _ _ _ _ _ _ _ _ => trivial) (by simpa using k3) (fun w => q_about hq w _)
        cases hw : Region.wanted o (yielded ops a.tmps) with
        | true =>
          obtain ⟨v, x, e1, e2, e3⟩ := op_qt hT H hq (h1 hw)
          exact first (v := v) (.inl ⟨hw, fun w _ => e1 w⟩) trivial ((plan_ok hT hF hrd hQ hQp p).1 _ f (s.put o.dst x) S σ _ w k5 (H.putv e2 o.dst) e3)
        | false => exact first (v := undef) (.inr ⟨hw, rfl⟩) trivial ((plan_ok hT hF hrd hQ hQp p).1 _ f (s.put o.dst (.imm undef)) S σ _ w k5 (skip_put H o.dst) (h2 hw))
  | .load j D p => by
    refine ⟨fun li f s S σ a w hok H hp => ?_, fun _ _ _ _ _ _ _ _ _ _ j hj => by simp [Plan.js] at hj⟩
    cases f with
    | zero => simp [okPlan] at hok
    | succ f =>
      simp only [okPlan, Bool.and_eq_true] at hok
      obtain ⟨⟨⟨⟨⟨k1, k2⟩, k3⟩, k4⟩, k6⟩, k5⟩ := hok
      simp only [planP] at hp
      split at hp
      · exact hp.elim
      · rename_i o ho
        have ho' : ops[j]? = some o := by simpa using ho
        have htm : tame o = true := by rw [ho'] at k4; simpa using k4
        obtain ⟨h1, h2⟩ := grd_ok H hp
        obtain ⟨d1, d2⟩ := okLoad_spec k6
        have first := fun {v : Value} => anyT_first (kb := kb) (T := T) (F := F) (k := k) (P := P) (v := v) (fun W => W = w) D hrd ho' htm k1 hQp f li a w (Region.free_spec ho' k2) d1 (fun m h1 h2 h3 w1 w2 hk hC => by rw [hk.1 (d2 m h1 h2 h3)]; exact hC) (by simpa using k3) (fun w => tame_about htm w _)
        cases hw : Region.wanted o (yielded ops a.tmps) with
        | true =>
          obtain ⟨v, x, e1, e2, e3⟩ := op_q1 hT H htm (h1 hw)
          exact first (v := v) (.inl ⟨hw, fun W hW => by rw [hW]; exact e1⟩) rfl ((plan_ok hT hF hrd hQ hQp p).1 _ f (s.put o.dst x) S σ _ w k5 (H.putv e2 o.dst) e3)
        | false => exact first (v := undef) (.inr ⟨hw, rfl⟩) rfl ((plan_ok hT hF hrd hQ hQp p).1 _ f (s.put o.dst (.imm undef)) S σ _ w k5 (skip_put H o.dst) (h2 hw))
  | .ld2 j D ts p => by
    refine ⟨fun li f s S σ a w hok H hp => ?_, fun _ _ _ _ _ _ _ _ _ _ j hj => by simp [Plan.js] at hj⟩
    cases f with
    | zero => simp [okPlan] at hok
    | succ f =>
      simp only [okPlan, Bool.and_eq_true] at hok
      obtain ⟨⟨⟨⟨⟨k1, k2⟩, k3⟩, k4⟩, k6⟩, k5⟩ := hok
      simp only [planP] at hp
      split at hp
      · exact hp.elim
      · rename_i o ho
        replace hp := chk_iff.1 hp
        obtain ⟨hl, hp⟩ := hp
        have ho' : ops[j]? = some o := by simpa using ho
        have htm : tame o = true := by rw [ho'] at k4; unfold tame; rw [Bool.or_eq_true]; exact .inr (by simpa using k4)
        obtain ⟨h1, h2⟩ := grd_ok H hp
        obtain ⟨d1, d2⟩ := okLoad2_spec k6
        cases hw : Region.wanted o (yielded ops a.tmps) with
        | true =>
          obtain ⟨v, x, g, c, t, z, e1, e2, e3, e4, e5⟩ := ld_same hT H hl (h1 hw)
          refine anyT_first (kb := kb) (T := T) (F := F) (k := k) (P := P) (v := v) (fun W => W.heap[g]? = w.heap[g]?) D hrd ho' htm k1 hQp f li a w (Region.free_spec ho' k2) d1 (fun m g1 g2 g3 w1 w2 hk hC => ?_) (by simpa using k3) (fun w => tame_about htm w _) (.inl ⟨hw, fun W hW => e3 W hW⟩) rfl ((plan_ok hT hF hrd hQ hQp p).1 _ f (s.put o.dst x) S σ _ w k5 (H.putv e4 o.dst) e5)
          have hw1 : w1.heap[g]? = some (.cells c t z) := hC.trans e1
          refine Eq.trans ?_ hC
          cases e : ops[m]? with
          | none => rw [hk.1 (by rw [e]; rfl)]
          | some om =>
            rcases d2 m g1 g2 g3 om e with q | q | ⟨t', q1, q⟩
            · rw [hk.1 (by rw [e]; exact q)]
            · have := hk.2 om e
              unfold Gr at this
              rw [q] at this
              exact this g c t z hw1 (by simp)
            · have := hk.2 om e
              unfold Gr at this
              rw [q] at this
              exact this g c t z hw1 (e2 t' q1)
        | false => exact anyT_first (kb := kb) (T := T) (F := F) (k := k) (P := P) (v := undef) (fun _ => True) D hrd ho' htm k1 hQp f li a w (Region.free_spec ho' k2) d1 (fun _ _ _ _ _ _ _ _ => trivial) (by simpa using k3) (fun w => tame_about htm w _) (.inr ⟨hw, rfl⟩) trivial ((plan_ok hT hF hrd hQ hQp p).1 _ f (s.put o.dst (.imm undef)) S σ _ w k5 (skip_put H o.dst) (h2 hw))
  | .alt j p q => by
    have step : ∀ (li : Array Bool) (f : Nat) (s : St) (S : Nat → Prop) (σ : Sg) (a : Act) (w : World), okPlan kb ops p (li.setIfInBounds j true) f = true → SR n₀ w₀ S₀ S σ s fr a w → (match ops.toList[j]? with | none => False | some o => stepG P T kb ops.toList o s (fun s => planP P T kb ops.toList p s K)) →
        wpOpIn F k P ops Q j (fun a' w' => Kt kb T ops j w w' ∧ wpAnyT kb T F k P ops Q f (li.setIfInBounds j true) a' w') a w := by
      intro li f s S σ a w hok H hp
      split at hp
      · exact hp.elim
      · rename_i o ho
        have ho' : ops[j]? = some o := by simpa using ho
        cases htm : tame o with
        | true =>
          have hp : stepP P T ops.toList o s fun s => planP P T kb ops.toList p s K := by
            unfold stepG at hp
            rw [callC_tame htm, Bool.and_false, cond_false] at hp
            exact hp
          obtain ⟨h1, h2⟩ := grd_ok H hp
          cases hw : Region.wanted o (yielded ops a.tmps) with
          | true =>
            obtain ⟨v, x, e1, e2, e3⟩ := op_q1 hT H htm (h1 hw)
            exact opIn_val hrd ho' (tame_about htm w _) (.inl ⟨hw, e1⟩) ⟨.refl _ _ _ _ _, (plan_ok hT hF hrd hQ hQp p).1 _ f (s.put o.dst x) S σ _ w hok (H.putv e2 o.dst) e3⟩
          | false => exact opIn_val hrd ho' (tame_about htm w _) (.inr ⟨hw, rfl⟩) ⟨.refl _ _ _ _ _, (plan_ok hT hF hrd hQ hQp p).1 _ f (s.put o.dst (.imm undef)) S σ _ w hok (skip_put H o.dst) (h2 hw)⟩
        | false =>
          refine wpOpIn_mono ?_ (step_gr hT hF H ho' hp)
          rintro a' w' ⟨hgr, s', S', σ', hk, H'⟩
          exact ⟨⟨fun h => by rw [ho'] at h; simp [htm] at h, fun o2 h2 => by rw [ho'] at h2; cases h2; exact hgr⟩, (plan_ok hT hF hrd hQ hQp p).1 _ f s' S' σ' a' w' hok H' hk⟩
    refine ⟨fun li f s S σ a w hok H hp => ?_, fun li f s S σ a w hok H hp i hi => ?_⟩
    · cases f with
      | zero => simp [okPlan] at hok
      | succ f =>
        simp only [okPlan, Bool.and_eq_true, beq_iff_eq] at hok
        obtain ⟨⟨k1, k2⟩, k3⟩ := hok
        refine ⟨fun h => absurd (k1 ▸ h) (by simp), fun i hi => ?_⟩
        rw [k1] at hi
        rcases List.mem_cons.1 hi with rfl | hi
        · exact step li f s S σ a w k2 H hp.1
        · exact (plan_ok hT hF hrd hQ hQp q).2 li f s S σ a w k3 H hp.2 i hi
    · simp only [okPlan.alts, Bool.and_eq_true] at hok
      rcases List.mem_cons.1 hi with rfl | hi
      · exact step li f s S σ a w hok.1 H hp.1
      · exact (plan_ok hT hF hrd hQ hQp q).2 li f s S σ a w hok.2 H hp.2 i hi
theorem opIn_round {l i : Nat} {ops : Array Oper} {Q : Exit → Act → World → Prop} {K K' : Act → World → Prop} (hd : ∀ (o : Oper), ops[i]? = some o → ∀ c, o.op ≠ .defer c) (hK : ∀ a w, K a w → K' a w) (h : wpOpIn Fence.wide k P ops Q i K a w) :
    wpOpIn (Fence.wide.inRound l) k P ops Q i K' a w := by
  have h := wpOpIn_mono hK h
  unfold wpOpIn at *
  cases ho : ops[i]? with
  | none => rw [ho] at h; exact h
  | some o =>
    rw [ho] at h
    simp only at h ⊢
    split
    · rename_i hw
      rw [if_pos hw] at h
      unfold Oper.wpIn at *
      rw [show (Fence.wide.inRound l).round = some l from rfl, Oper.semAt_some l _ _ (hd o ho)]
      exact h
    · rename_i hw
      rw [if_neg hw] at h
      exact h
theorem any_round {l : Nat} {ops : Array Oper} {Q : Exit → Act → World → Prop} (hd : ∀ (i : Nat) (o : Oper), ops[i]? = some o → ∀ c, o.op ≠ .defer c) : ∀ (fuel : Nat) (li : Array Bool) (a : Act) (w : World), wpAnyIn Fence.wide k P .any ops Q fuel li a w → wpAnyIn (Fence.wide.inRound l) k P .any ops Q fuel li a w
  | 0, li, a, w, h => h
  | fuel + 1, li, a, w, h => ⟨h.1, fun i hi => opIn_round (hd i) (fun a w => any_round hd fuel _ a w) (h.2 i hi)⟩
theorem least {p : Nat → Prop} (h : ∃ n, p n) : ∃ n, p n ∧ ∀ m, m < n → ¬ p m := by
  obtain ⟨n, hn⟩ := h
  induction n using Nat.strongRecOn with
  | _ n ih =>
    by_cases hm : ∃ m, m < n ∧ p m
    · obtain ⟨m, h1, h2⟩ := hm
      exact ih m h1 h2
    · exact ⟨n, hn, fun m h1 h2 => hm ⟨m, h1, h2⟩⟩
/-- a loop's record, and the block of its rounds' deferred calls, are laid -/
theorem HR.newLp (H : HR n₀ w₀ S₀ S σ h n (⟨s.t, a.tmps, none, dsOf a.defers⟩ :: fr) w) (hN : a.tmps.size = s.N) {ps : Array Tmp} {asg bd : Code} {fn : FuncId} {l : Option Nat} (hl : l = some n) :
    HR n₀ w₀ S₀ S (updσ σ n (.pointer (some ⟨w.heap.size + 1, 0, none⟩))) (upd h n (.lp .ready none s.t s.N ps asg bd)) (n + 1)
      (⟨fun i => if i = 0 then .yl n else .d .no, #[.func (.yield (w.heap.size + 1)) #[] #[]], some (n + 1), []⟩ :: ⟨s.t, a.tmps, l, w.heap.size :: dsOf a.defers⟩ :: fr)
      ((w.alloc (.deferred (some []))).alloc (.loop { state := .ready, pending := none, fn, tmps := a.tmps, params := ps, assign := asg, body := bd, defers := w.heap.size })) := by
  subst hl
  obtain ⟨w1, hw1⟩ : ∃ w1, w1 = w.alloc (.deferred (some [])) := ⟨_, rfl⟩
  rw [← hw1]
  have hsz : w1.heap.size = w.heap.size + 1 := by rw [hw1]; simp
  have hold : ∀ k, k < w.heap.size → w1.heap[k]? = w.heap[k]? := fun k hk => by rw [hw1]; exact ha_old w _ hk
  have H1 : HR n₀ w₀ S₀ S σ h n (⟨s.t, a.tmps, none, dsOf a.defers⟩ :: fr) w1 := by
    refine H.to ((by rw [hw1]; exact (Below.refl n₀ w).alloc H.size _) : Below n₀ w w1) (fun g hg => hold g (H.sS g hg)) (fun _ h => h) (fun _ _ h => h) (fun g hg => by have := H.sS g hg; omega) H.s0 (fun b o hb => (H.bx b o hb).mono (fun g hg => hold g (H.sS g hg)) (fun _ h => h) (fun _ _ h => h) (fun hl u g hu hg => hold g (H.row_lt hb hl hu hg).2)) H.sep H.un H.fresh (fun d _ d2 d3 d4 => ⟨hold d (Array.getElem?_eq_some_iff.1 d2).1, d3, d4⟩)
  have hD : w1.heap[w.heap.size]? = some (.deferred (some [])) := by rw [hw1]; exact World.alloc_heap_new w _
  obtain ⟨w2, hw2⟩ : ∃ w2, w2 = w1.alloc (.loop { state := .ready, pending := none, fn, tmps := a.tmps, params := ps, assign := asg, body := bd, defers := w.heap.size }) := ⟨_, rfl⟩
  rw [← hw2]
  have hL : w2.heap[w.heap.size + 1]? = some (.loop { state := .ready, pending := none, fn, tmps := a.tmps, params := ps, assign := asg, body := bd, defers := w.heap.size }) := by
    rw [hw2, ← hsz]; exact World.alloc_heap_new w1 _
  have hgr : w1.grownBy w2 none := by rw [hw2]; exact World.grownBy_alloc w1 _ none
  have H2 := H1.grow (w' := w2) (v := .pointer (some ⟨w.heap.size + 1, 0, none⟩)) (o := .lp .ready none s.t s.N ps asg bd) (row := none) (fun _ _ h => h) (fun g e => by cases e) (fun g e => by cases e) (fun _ _ _ _ _ _ _ _ e => by cases e) hgr (fun g hg => .inr (by simp only [base, and_self, if_true, Option.some.injEq] at hg; omega))
    ⟨w.heap.size + 1, _, by simp [updσ], by have := H.size; omega, hL, ⟨rfl, rfl, rfl, rfl, rfl, hN⟩, fun i => (H1.fr _ List.mem_cons_self i).mono (fun g hg => hgr.block g (H1.sS g hg) (by simp)) (fun _ h => h) (fun b u hb => by
      simp only [res] at hb ⊢
      by_cases hlt : b < n
      · rw [if_pos hlt, updσ_ne (by omega)]; exact hb
      · rw [(H.fresh b (by omega)).2] at hb; cases hb)⟩
  have hlt : ∀ p : Fr, p ∈ (⟨s.t, a.tmps, none, dsOf a.defers⟩ :: fr : List Fr) → ∀ d, d ∈ p.ds → d < w.heap.size := fun p hp d hd => (Array.getElem?_eq_some_iff.1 (H.ds p hp d hd).2.1).1
  refine ⟨H2.old, H2.le0, H2.gl, H2.s0, H2.sS, H2.bx, ?_, H2.sep, H2.un, ?_, ?_, H2.fresh⟩
  · intro p hp i
    rcases List.mem_cons.1 hp with rfl | hp
    · by_cases hi : i = 0
      · subst hi
        exact .yl (by simp [res, updσ])
      · simp only [hi, if_false]
        exact .d (.no _)
    · rcases List.mem_cons.1 hp with rfl | hp
      · refine (H.fr _ List.mem_cons_self i).mono (fun g hg => ?_) (fun _ h => h) (fun b u hb => ?_)
        · exact (hgr.block g (H1.sS g hg) (by simp)).trans (hold g (H.sS g hg))
        · simp only [res] at hb ⊢
          by_cases hlt : b < n
          · rw [if_pos hlt, updσ_ne (by omega)]; exact hb
          · rw [(H.fresh b (by omega)).2] at hb; cases hb
      · exact H2.fr p (List.mem_cons_of_mem _ hp) i
  · intro p hp d hd
    rcases List.mem_cons.1 hp with rfl | hp
    · simp at hd
    · rcases List.mem_cons.1 hp with rfl | hp
      · rcases List.mem_cons.1 hd with rfl | hd
        · have hs := H.size
          refine ⟨hs, (hgr.block _ (by omega) (by simp)).trans hD, fun hS => by have := H.sS _ hS; omega, fun b o u hb hl hu hg => ?_⟩
          rcases upd_eq hb with ⟨rfl, rfl⟩ | ⟨e, hb⟩
          · simp only [updσ, if_true, Option.some.injEq] at hu
            subst hu
            simp only [base, and_self, if_true, Option.some.injEq] at hg
            omega
          · rw [updσ_ne e] at hu
            have := (H.row_lt hb hl hu hg).2
            omega
        · exact H2.ds _ List.mem_cons_self d hd
      · exact H2.ds p (List.mem_cons_of_mem _ hp) d hd
  · have h1 : (dsOf a.defers ++ (fr.map Fr.ds).flatten).Nodup := by simpa using H.nd
    have h2 : w.heap.size ∉ dsOf a.defers ++ (fr.map Fr.ds).flatten := by
      intro hm
      rcases List.mem_append.1 hm with hm | hm
      · exact absurd (hlt _ List.mem_cons_self _ hm) (Nat.lt_irrefl _)
      · obtain ⟨l, hl, hd⟩ := List.mem_flatten.1 hm
        obtain ⟨p, hp, rfl⟩ := List.mem_map.1 hl
        exact absurd (hlt p (List.mem_cons_of_mem _ hp) _ hd) (Nat.lt_irrefl _)
    simpa using List.nodup_cons.2 ⟨h2, h1⟩
/-- a loop's record is given up -/
theorem HR.dropLp (H : HR n₀ w₀ S₀ S σ h n fr w) {b l : Nat} {o : Ob} (hb : h b = some o) (hl : o.live = true) (hu : σ b = some (.pointer (some ⟨l, 0, none⟩))) (o' : Obj) : HR n₀ w₀ S₀ S σ (kil h b) n fr (w.putObj l o') :=
  H.wrg (w' := w.putObj l o') (g := l) hb hl hu rfl ⟨rfl, rfl, rfl, by simp, fun k _ hk => World.putObj_heap_other (fun e => hk (by rw [e]))⟩ fun b1 p1 h1 => .inr (kil_eq h1)
theorem rng_ok (hF : Free F) (hm : P.follows .mixedOrders = true) (hro : F.round = none) (H : SR n₀ w₀ S₀ S σ s fr a w) {g : Operand} {ps : Array Tmp} {asg bd : Code} {Q : Exit → St → Prop} {p : FuncId} {caps : List V} {lb : List Value}
    (hg : a.eval g = .func (.func p) #[] lb.toArray) (hlen : lb.length = caps.length) (hcap : ∀ (i : Nat) x u, caps[i]? = some x → lb[i]? = some u → Vr w S σ x u)
    (hp : Hc P p (.yl s.n :: caps) (upd s.h s.n (.lp .ready none s.t s.N ps asg bd)) (s.n + 1) (rngR s.n s Q)) : (Code.rangeFunc g ps asg bd).wpIn F k P (Gx n₀ w₀ S₀ fr Q) a w := by
  refine wpIn_rangeFunc fun fn hfn => ?_
  have H2 := H.h.newLp (ps := ps) (asg := asg) (bd := bd) (fn := fn) H.N (l := some s.n) rfl
  let W2 : World := (w.alloc (.deferred (some []))).alloc (.loop { state := .ready, pending := none, fn, tmps := a.tmps, params := ps, assign := asg, body := bd, defers := w.heap.size })
  refine ⟨w.heap.size + 1, [⟨.collected w.heap.size, #[]⟩], W2, { target := .fn (.func p) lb.toArray, args := #[.func (.yield (w.heap.size + 1)) #[] #[]] }, W2, p, ((.func (.yield (w.heap.size + 1)) #[] #[]) :: lb).toArray, W2, by rw [hro]; exact run_enterLoop_outer _ _ _ _ _, ?_, fun f' _ => hF.fn f', ?_, (fun h => by rw [hF.depth] at h; cases h), hF.calls ((hp.run n₀ w₀ S₀ S _ _ _ _ H2 ?_ (by simp [hlen]) ?_).mono ?_)⟩
  · simp only [resolve, hg]
    simp [Deferred.ofValue, Act.eval]
  · have := callFunc_run hp.pl (#[.func (.yield (w.heap.size + 1)) #[] #[]] ++ lb.toArray) ((w.alloc (.deferred (some []))).alloc (.loop { state := .ready, pending := none, fn, tmps := a.tmps, params := ps, assign := asg, body := bd, defers := w.heap.size }))
    simp [invoke]
    simpa using this
  · intro q hq
    rcases List.mem_cons.1 hq with rfl | hq
    · exact ⟨_, rfl, Nat.le_refl _⟩
    · rcases List.mem_cons.1 hq with rfl | hq
      · exact ⟨_, rfl, by omega⟩
      · obtain ⟨l, h1, h2⟩ := H.lo q hq
        exact ⟨l, h1, by have := H.lon; omega⟩
  · intro i x u hx hu
    cases i with
    | zero =>
      simp only [List.getElem?_cons_zero, Option.some.injEq] at hx hu
      subst hx hu
      exact .yl (by simp [updσ])
    | succ i =>
      simp only [List.getElem?_cons_succ] at hx hu
      exact (hcap i x u hx hu).mono (fun g hg => by
        rw [ha_old _ _ (by have := H.h.sS g hg; simp; omega), ha_old _ _ (H.h.sS g hg)]) (fun _ h => h) (updσ_sub H.h _)
  · rintro e w' ⟨r, h', n', S', σ', v, rfl, hq, H', hx, hn⟩
    have hy := H'.fr _ List.mem_cons_self 0
    have hσ : σ' s.n = some (.pointer (some ⟨w.heap.size + 1, 0, none⟩)) := by
      simp only [if_true] at hy
      have hv0 : (#[Value.func (.yield (w.heap.size + 1)) #[] #[]] : Array Value).getD 0 undef = .func (.yield (w.heap.size + 1)) #[] #[] := rfl
      rw [hv0] at hy
      cases hy with
      | yl hy => simpa [res] using hy
    unfold rngR at hq
    split at hq
    · rename_i st pend t' N' ps' asg' bd' hb
      replace hq := chk_iff.1 hq
      obtain ⟨hst, hq⟩ := hq
      obtain ⟨l, rec, g1, g2, g3, ⟨g4, g5, _⟩, _⟩ := H'.bx s.n _ hb
      rw [hσ] at g1
      cases g1
      have hnb : rec.state ≠ .busy := by rw [g4]; intro e; rw [e] at hst; cases hst
      refine ⟨pend, w'.putObj (w.heap.size + 1) (.loop { rec with state := .exhausted }), by rw [← g5]; exact run_endLoop g3 hnb, ?_⟩
      have HD := H'.dropLp hb rfl hσ (.loop { rec with state := .exhausted })
      have HU : SR n₀ w₀ S₀ S' σ' { s with h := kil h' s.n, n := n' } fr { a with defers := [⟨.collected w.heap.size, #[]⟩] ++ a.defers } (w'.putObj (w.heap.size + 1) (.loop { rec with state := .exhausted })) := by
        refine ⟨?_, H.lo, by have := H.lon; show s.lo ≤ n'; omega, H.N, fun d hd => ?_⟩
        · refine uncaller (l := s.n) ⟨HD.old, HD.le0, HD.gl, HD.s0, HD.sS, HD.bx, fun p hp => HD.fr p (List.mem_cons_of_mem _ hp), HD.sep, HD.un, fun p hp => HD.ds p (List.mem_cons_of_mem _ hp), HD.nd, HD.fresh⟩
        · rcases List.mem_cons.1 hd with rfl | hd
          · exact ⟨_, rfl⟩
          · exact H.d d hd
      split at hq
      · exact ⟨⟨_, _, _, hq, HU⟩, trivial⟩
      · exact wpIn_ret ⟨⟨_, _, _, hq, HU⟩, trivial⟩
      · exact wpIn_exit ⟨⟨_, _, _, hq, HU⟩, trivial⟩
      · exact wpIn_goto ⟨⟨_, _, _, hq, HU⟩, trivial⟩
      · exact hq.elim
    · exact hq.elim
theorem code_ok (hT : TOk P T) (hF : Free F) (hm : P.follows .mixedOrders = true) (hrd : rd = false → F.round = none) : ∀ (c : Code) (s : St) (Q : Exit → St → Prop) (S : Nat → Prop) (σ : Sg) (a : Act) (w : World), wpP P T rd pl c s Q → SR n₀ w₀ S₀ S σ s fr a w → c.wpIn F k P (Gx n₀ w₀ S₀ fr Q) a w := by
  intro c
  induction c with
  | skip => intro s Q S σ a w hp H; exact wpIn_skip ⟨⟨s, S, σ, hp, H⟩, trivial⟩
  | label l => intro s Q S σ a w hp H; exact wpIn_label ⟨⟨s, S, σ, hp, H⟩, trivial⟩
  | ret => intro s Q S σ a w hp H; exact wpIn_ret ⟨⟨s, S, σ, hp, H⟩, trivial⟩
  | exit i => intro s Q S σ a w hp H; exact wpIn_exit ⟨⟨s, S, σ, hp, H⟩, trivial⟩
  | goto i => intro s Q S σ a w hp H; exact wpIn_goto ⟨⟨s, S, σ, hp, H⟩, trivial⟩
  | region i ops draw =>
    intro s Q S σ a w hp H
    cases draw with
    | false =>
      refine wpIn_region ?_
      rw [List.range_eq_range', ← Array.length_toList]
      have hp' : regP P T ops.toList ops.toList s fun s' => frcP pl.keep pl.N s' (Q .normal) := hp
      refine reg_ok hT hF (fun a w h => ?_) ops.toList 0 s S σ a w rfl H hp'
      obtain ⟨s', S', σ', hw, H'⟩ := h
      obtain ⟨s2, k1, k2⟩ := frc_ok hw
      obtain ⟨S2, σ2, H2⟩ := k1.tol _ _ _ _ _ _ _ _ H'
      exact ⟨⟨s2, S2, σ2, k2, H2⟩, trivial⟩
    | true =>
      obtain ⟨h1, s₁, h2, h3⟩ := hp
      rw [Bool.and_eq_true] at h1
      have hdf : ∀ (i : Nat) (o : Oper), ops[i]? = some o → ∀ c, o.op ≠ .defer c := fun i o ho c hc => by
        have := List.all_eq_true.1 h1.1 o (List.mem_of_getElem? (by rw [Array.getElem?_toList]; exact ho))
        rw [hc] at this
        cases this
      have key := anyT (kb := (pl.get i).kb) _ _ _ _ <| (plan_ok (F := Fence.wide) (k := k) (n₀ := n₀) (w₀ := w₀) (S₀ := S₀) (fr := fr) (Q := Gx n₀ w₀ S₀ fr Q) hT (.inl rfl) rfl (K := fun s' => Wk s' s₁) (fun a w h => by
        obtain ⟨s', S', σ', hw, H'⟩ := h
        obtain ⟨S2, σ2, H2⟩ := hw.tol _ _ _ _ _ _ _ _ H'
        exact ⟨⟨s₁, S2, σ2, h3, H2⟩, trivial⟩) (fun c a w h => h.2) (pl.get i).top).1 _ _ s S σ a _ h1.2 ⟨H.h.drew (w' := w.drew) rfl rfl rfl rfl, H.lo, H.lon, H.N, H.d⟩ h2
      rcases hF with rfl | ⟨l, rfl⟩
      · exact wpIn_region_any hm key
      · exact wpIn_region_any hm (any_round hdf _ _ _ _ key)
  | seq c d ihc ihd =>
    intro s Q S σ a w hp H
    refine wpIn_seq (wpIn_mono (ihc s _ S σ a w hp H) ?_)
    rintro e a' w' ⟨⟨s', S', σ', hq, H'⟩, he⟩
    cases e with
    | normal => exact ihd s' Q S' σ' a' w' hq H'
    | panic c => exact he.elim
    | outgrown => exact he.elim
    | _ => exact ⟨⟨s', S', σ', hq, H'⟩, trivial⟩
  | cond x c d ihc ihd =>
    intro s Q S σ a w hp H
    simp only [wpP] at hp
    obtain ⟨s', hwk, hp⟩ := hp
    obtain ⟨S', σ', H⟩ := hwk.tol _ _ _ _ _ _ _ _ H
    have hx := H.ev x
    unfold condP at hp
    split at hp
    · rename_i b hb
      rw [hb] at hx
      generalize hv : a.eval x = v at hx
      cases hx with
      | d hx =>
        cases hx
        exact wpIn_cond_split hv (fun h => ihc s' Q S' σ' a w (hp.1 h) H) (fun h => ihd s' Q S' σ' a w (hp.2 h) H)
    · exact hp.elim
  | block i c ih =>
    intro s Q S σ a w hp H
    refine wpIn_block (wpIn_mono (ih s _ S σ a w hp H) ?_)
    rintro e a' w' ⟨⟨s', S', σ', hq, H'⟩, he⟩
    cases e with
    | exit j =>
      simp only [Exit.inBlock]
      by_cases e : j = i
      · subst e
        rw [if_pos rfl]
        simp only [Nat.beq_refl, cond_true] at hq
        exact ⟨⟨s', S', σ', hq, H'⟩, trivial⟩
      · rw [if_neg e]
        simp only [beq_ne e, cond_false] at hq
        exact ⟨⟨s', S', σ', hq, H'⟩, trivial⟩
    | panic c => exact he.elim
    | outgrown => exact he.elim
    | _ => exact ⟨⟨s', S', σ', hq, H'⟩, trivial⟩
  | loop c ih =>
    intro s Q S σ a w hp H
    obtain ⟨n0, hp⟩ := hp
    classical
    let J : Nat → Act → World → Prop := fun n a w => ∃ s S σ, loopP (wpP P T rd pl c) n s Q ∧ SR n₀ w₀ S₀ S σ s fr a w
    have hJ : ∀ a w, (∃ n, J n a w) → ∃ n, J n a w ∧ ∀ m, m < n → ¬ J m a w := fun a w h => least h
    let μ : Act → World → Nat := fun a w => if h : ∃ n, J n a w then Classical.choose (hJ a w h) else 0
    have hμ : ∀ a w (h : ∃ n, J n a w), J (μ a w) a w ∧ ∀ m, m < μ a w → ¬ J m a w := fun a w h => by
      have : μ a w = Classical.choose (hJ a w h) := dif_pos h
      rw [this]
      exact Classical.choose_spec (hJ a w h)
    refine wpIn_loop (fun a w => ∃ n, J n a w) μ ⟨n0, s, S, σ, hp, H⟩ ?_
    intro a w hI
    obtain ⟨⟨s1, S1, σ1, h1, H1⟩, hmin⟩ := hμ a w hI
    cases hn : μ a w with
    | zero => rw [hn] at h1; exact h1.elim
    | succ m =>
      rw [hn] at h1
      obtain ⟨s2, hwk, hb⟩ := h1
      obtain ⟨S2, σ2, H2⟩ := hwk.tol _ _ _ _ _ _ _ _ H1
      refine wpIn_mono (ih s2 _ S2 σ2 a w hb H2) ?_
      rintro e a' w' ⟨⟨s', S', σ', hq, H'⟩, he⟩
      cases e with
      | normal =>
        have hj : ∃ n, J n a' w' := ⟨m, s', S', σ', hq, H'⟩
        refine ⟨hj, ?_⟩
        rcases Nat.lt_or_ge m (μ a' w') with hlt | hge
        · exact absurd ⟨s', S', σ', hq, H'⟩ ((hμ a' w' hj).2 m hlt)
        · omega
      | panic c => exact he.elim
      | outgrown => exact he.elim
      | _ => exact ⟨⟨s', S', σ', hq, H'⟩, trivial⟩
  | rangeFunc f ps asg c ih1 ih2 =>
    intro s Q S σ a w hp H
    replace hp := chk_iff.1 hp
    obtain ⟨hr, hp⟩ := hp
    have hro := hrd (by simpa using hr)
    have hf := H.ev f
    unfold rngP at hp
    split at hp
    · rename_i p caps hpf
      rw [hpf] at hf
      generalize hv : a.eval f = v at hf
      cases hf with
      | fn vs h1 h2 => exact rng_ok hF hm hro H hv h1 h2 hp
    · rename_i p caps hpf
      rw [hpf] at hf
      generalize hv : a.eval f = v at hf
      cases hf with
      | d hf =>
        cases hf with
        | fn vs h1 h2 => exact rng_ok hF hm hro H hv (by simp [h1]) (Al.map_d (σ := σ) ⟨h1, h2⟩).at_ hp
    · exact hp.elim
  | scope c ih => intro s Q S σ a w hp H; exact hp.elim
  | refuse why => intro s Q S σ a w hp H; exact hp.elim
end
end Go.Proofs.YtkhgpnbhnipndaaGreatDoor.Am
end
