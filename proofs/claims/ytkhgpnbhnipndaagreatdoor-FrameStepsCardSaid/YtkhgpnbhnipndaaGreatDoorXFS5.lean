/- What the law leans on, part 6: declarations of several texts of ours, in their order. -/
import Derived.Test.YtkhgpnbhnipndaaGreatDoorXFS3
import Derived.Below
import Derived.CallsIn
import Derived.RegionIn
import Derived.OrdersIn
import Derived.Maps.AppendAt
section
/-! Data, values and what they are in a world. -/
namespace Go.Proofs.YtkhgpnbhnipndaaGreatDoor.Am
open Go Go.RowKit
set_option linter.unusedVariables false
set_option linter.unusedSimpArgs false
theorem ha_new (w : World) (o : Obj) : (w.alloc o).heap[w.heap.size]? = some o := by
  show (w.heap.push o)[w.heap.size]? = some o
  simp
theorem ha_old (w : World) (o : Obj) {i : Nat} (h : i < w.heap.size) : (w.alloc o).heap[i]? = w.heap[i]? := by
  show (w.heap.push o)[i]? = w.heap[i]?
  rw [Array.getElem?_push, if_neg (Nat.ne_of_lt h)]
/-- data: nothing in it is ever written again -/
inductive D where
  | v (x : Value)
  | sl (z : Nat) (l : List D) (n : Nat) (c : Option Nat)
  | fn (f : FuncId) (c : List D)
  | agg (l : List D)
  | tup (l : List D)
  | ifc (t : TypeId) (x : D)
  | no
  deriving Inhabited
/-- values of a frame: data, or over boxes -/
inductive V where
  | d (x : D)
  | bs (b : Nat)
  | pt (b off : Nat)
  | ep (l : List D) (off : Nat)
  | fn (f : FuncId) (c : List V)
  | agg (l : List V)
  | tup (l : List V)
  | ifc (t : TypeId) (x : V)
  | yl (b : Nat)
  deriving Inhabited
/-- boxes: cells (type t); a growing row (elements of type e, z cells each, n of them); a row that grows no more -/
inductive Ob where
  | st (t : TypeId) (l : List V)
  | ar (e : TypeId) (z n : Nat) (l : List D)
  | fz (z n : Nat) (l : List D)
  | mp (l : List (Value × D))
  | lp (st : LoopState) (pend : Option Code) (t : Nat → V) (N : Nat) (ps : Array Tmp) (asg bd : Code)
/-- cells and what they read as, one by one -/
structure Al {α : Type} (R : α → Value → Prop) (l : List α) (us : List Value) : Prop where
  len : us.length = l.length
  at_ : ∀ (i : Nat) x u, l[i]? = some x → us[i]? = some u → R x u
inductive Dr (w : World) (S : Nat → Prop) : D → Value → Prop
  | v (x : Value) : Dr w S (.v x) x
  | no (x : Value) : Dr w S .no x
  | nil (z : Nat) (c : Option Nat) : (∀ k, c = some k → k = 0) → Dr w S (.sl z [] 0 c) (.slice none 0 0)
  | emp (z : Nat) (c : Option Nat) (a : Addr) : (∀ k, c = some k → k = 0) → Dr w S (.sl z [] 0 c) (.slice (some a) 0 0)
  | sl {z n : Nat} {l : List D} {c : Option Nat} (g o k : Nat) (us : List Value) : l.length = n * z → n ≤ k → k ≤ maxLen → (∀ k', c = some k' → k' = k) → S g → us.length = l.length →
      (∀ i u, us[i]? = some u → w.cell? ⟨g, o + i, none⟩ = some u) → (∀ u, u ∈ us → u.oneCell' = true) → (∀ (i : Nat) x u, l[i]? = some x → us[i]? = some u → Dr w S x u) → Dr w S (.sl z l n c) (.slice (some ⟨g, o, none⟩) n k)
  | fn {p : FuncId} {c : List D} (vs : List Value) : vs.length = c.length → (∀ (i : Nat) x u, c[i]? = some x → vs[i]? = some u → Dr w S x u) → Dr w S (.fn p c) (.func (.func p) #[] vs.toArray)
  | agg {c : List D} (vs : List Value) : vs.length = c.length → (∀ u, u ∈ vs → u.oneCell' = true) → (∀ (i : Nat) x u, c[i]? = some x → vs[i]? = some u → Dr w S x u) → Dr w S (.agg c) (.agg vs.toArray)
  | tup {c : List D} (vs : List Value) : vs.length = c.length → (∀ (i : Nat) x u, c[i]? = some x → vs[i]? = some u → Dr w S x u) → Dr w S (.tup c) (.tuple vs.toArray)
  | ifc {t : TypeId} {x : D} {u : Value} : Dr w S x u → Dr w S (.ifc t x) (.iface t u)
theorem Dr.mono {w w' : World} {S S' : Nat → Prop} (hw : ∀ g, S g → w'.heap[g]? = w.heap[g]?) (hS : ∀ g, S g → S' g) {x : D} {v : Value} (h : Dr w S x v) : Dr w' S' x v := by
  induction h with
  | v x => exact .v x
  | no x => exact .no x
  | nil z c h => exact .nil z c h
  | emp z c a h => exact .emp z c a h
  | sl g o k us h1 h2 h3 h4 h5 h6 h7 h8 _ ih => exact .sl g o k us h1 h2 h3 h4 (hS g h5) h6 (fun i u hu => (World.cell?_of_block (a := ⟨g, o + i, none⟩) (hw g h5)).trans (h7 i u hu)) h8 ih
  | fn vs h1 _ ih => exact .fn vs h1 ih
  | agg vs h1 h2 _ ih => exact .agg vs h1 h2 ih
  | tup vs h1 _ ih => exact .tup vs h1 ih
  | ifc _ ih => exact .ifc ih
abbrev Sg := Nat → Option Value
abbrev Hp := Nat → Option Ob
/-- the block in which a box lies -/
def base : Value → Option Nat
  | .pointer (some a) => if a.off = 0 ∧ a.spot = none then some a.block else none
  | .slice (some a) _ _ => if a.off = 0 ∧ a.spot = none then some a.block else none
  | .map r => r
  | _ => none
inductive Vr (w : World) (S : Nat → Prop) (σ : Sg) : V → Value → Prop
  | d {x : D} {v : Value} : Dr w S x v → Vr w S σ (.d x) v
  | bs {b : Nat} {v : Value} : σ b = some v → v.oneCell' = true → Vr w S σ (.bs b) v
  | pt {b o g : Nat} (u : Value) : σ b = some u → base u = some g → Vr w S σ (.pt b o) (.pointer (some ⟨g, o, none⟩))
  | ep {l : List D} {o : Nat} (g p : Nat) (us : List Value) : S g → us.length = l.length → (∀ i u, us[i]? = some u → w.cell? ⟨g, p + i, none⟩ = some u) → (∀ u, u ∈ us → u.oneCell' = true) → (∀ (i : Nat) x u, l[i]? = some x → us[i]? = some u → Dr w S x u) → Vr w S σ (.ep l o) (.pointer (some ⟨g, p + o, none⟩))
  | fn {p : FuncId} {c : List V} (vs : List Value) : vs.length = c.length → (∀ (i : Nat) x u, c[i]? = some x → vs[i]? = some u → Vr w S σ x u) → Vr w S σ (.fn p c) (.func (.func p) #[] vs.toArray)
  | agg {c : List V} (vs : List Value) : vs.length = c.length → (∀ u, u ∈ vs → u.oneCell' = true) → (∀ (i : Nat) x u, c[i]? = some x → vs[i]? = some u → Vr w S σ x u) → Vr w S σ (.agg c) (.agg vs.toArray)
  | tup {c : List V} (vs : List Value) : vs.length = c.length → (∀ (i : Nat) x u, c[i]? = some x → vs[i]? = some u → Vr w S σ x u) → Vr w S σ (.tup c) (.tuple vs.toArray)
  | ifc {t : TypeId} {x : V} {u : Value} : Vr w S σ x u → Vr w S σ (.ifc t x) (.iface t u)
  | yl {b l : Nat} : σ b = some (.pointer (some ⟨l, 0, none⟩)) → Vr w S σ (.yl b) (.func (.yield l) #[] #[])
theorem Vr.mono {w w' : World} {S S' : Nat → Prop} {σ σ' : Sg} (hw : ∀ g, S g → w'.heap[g]? = w.heap[g]?) (hS : ∀ g, S g → S' g) (hσ : ∀ b u, σ b = some u → σ' b = some u) {x : V} {v : Value} (h : Vr w S σ x v) : Vr w' S' σ' x v := by
  induction h with
  | d h => exact .d (h.mono hw hS)
  | bs h h1 => exact .bs (hσ _ _ h) h1
  | pt u h h2 => exact .pt u (hσ _ _ h) h2
  | ep g p us h1 h2 h3 h4 h5 => exact .ep g p us (hS g h1) h2 (fun i u hu => (World.cell?_of_block (a := ⟨g, p + i, none⟩) (hw g h1)).trans (h3 i u hu)) h4 (fun i x u hx hu => (h5 i x u hx hu).mono hw hS)
  | fn vs h1 _ ih => exact .fn vs h1 ih
  | agg vs h1 h2 _ ih => exact .agg vs h1 h2 ih
  | tup vs h1 _ ih => exact .tup vs h1 ih
  | ifc _ ih => exact .ifc ih
  | yl h => exact .yl (hσ _ _ h)
def res (σ : Sg) : Option Nat → Sg
  | none => σ
  | some l => fun b => if b < l then σ b else none
theorem res_mono {σ σ' : Sg} (h : ∀ b u, σ b = some u → σ' b = some u) (l : Option Nat) : ∀ b u, res σ l b = some u → res σ' l b = some u := by
  intro b u hb
  cases l with
  | none => exact h b u hb
  | some l =>
    simp only [res] at hb ⊢
    split at hb
    · rename_i e; rw [if_pos e]; exact h b u hb
    · cases hb
/-- a box in a world -/
def Bx (w : World) (S : Nat → Prop) (σ : Sg) (n₀ : Nat) (b : Nat) : Ob → Prop
  | .st t l => ∃ g cs, σ b = some (.pointer (some ⟨g, 0, none⟩)) ∧ n₀ ≤ g ∧ w.heap[g]? = some (.cells cs t (0, 0)) ∧ (∀ u, u ∈ cs.toList → u.oneCell' = true) ∧ Al (Vr w S σ) l cs.toList
  | .ar e z n l => ∃ v us, σ b = some v ∧ w.ownsRow n₀ e z v n us ∧ (∀ u, u ∈ us → u.oneCell' = true) ∧ Al (Dr w S) l us
  | .fz z n l => ∃ v, σ b = some v ∧ Dr w S (.sl z l n none) v
  | .mp l => ∃ g es clock, σ b = some (.map (some g)) ∧ n₀ ≤ g ∧ w.heap[g]? = some (.map es clock) ∧ es.toList.map MapEntry.key = l.map Prod.fst ∧ Al (Dr w S) (l.map Prod.snd) (es.toList.map MapEntry.val)
  | .lp st pend t N ps asg bd => ∃ l r, σ b = some (.pointer (some ⟨l, 0, none⟩)) ∧ n₀ ≤ l ∧ w.heap[l]? = some (.loop r) ∧ (r.state = st ∧ r.pending = pend ∧ r.params = ps ∧ r.assign = asg ∧ r.body = bd ∧ r.tmps.size = N) ∧ ∀ i, Vr w S (res σ (some b)) (t i) (r.tmps.getD i undef)
def Ob.live : Ob → Bool
  | .fz .. => false
  | _ => true
/-- what is known of the program's variables -/
def GLw (w : World) : Prop := Hd.GL w
theorem GLw.below {w w' : World} (h : GLw w) (hb : Below w.heap.size w w') : GLw w' := Hd.GL.below h hb
/-- a frame: what its temporaries are told to be, and are; the boxes that it knows -/
structure Fr where
  t : Nat → V
  v : Array Value
  lo : Option Nat
  ds : List Nat
/-- memory, and all frames under way -/
structure HR (n₀ : Nat) (w₀ : World) (S₀ S : Nat → Prop) (σ : Sg) (h : Hp) (n : Nat) (L : List Fr) (w : World) : Prop where
  old : Below n₀ w₀ w
  le0 : n₀ = w₀.heap.size
  gl : GLw w₀
  s0 : ∀ g, S g → g < n₀ → S₀ g
  sS : ∀ g, S g → g < w.heap.size
  bx : ∀ b o, h b = some o → Bx w S σ n₀ b o
  fr : ∀ p, p ∈ L → ∀ i, Vr w S (res σ p.lo) (p.t i) (p.v.getD i undef)
  sep : ∀ b b' o o', h b = some o → h b' = some o' → o.live = true → o'.live = true → b ≠ b' → ∀ u u' g, σ b = some u → σ b' = some u' → base u = some g → base u' ≠ some g
  un : ∀ b o, h b = some o → o.live = true → ∀ u g, σ b = some u → base u = some g → ¬ S g
  ds : ∀ p, p ∈ L → ∀ d, d ∈ p.ds → n₀ ≤ d ∧ w.heap[d]? = some (.deferred (some [])) ∧ ¬ S d ∧ ∀ b o u, h b = some o → o.live = true → σ b = some u → base u ≠ some d
  nd : (L.map Fr.ds).flatten.Nodup
  fresh : ∀ b, n ≤ b → h b = none ∧ σ b = none
end Go.Proofs.YtkhgpnbhnipndaaGreatDoor.Am
end
section
/-! The machine over values: what an operation, a region, a code asks. -/
namespace Go.Proofs.YtkhgpnbhnipndaaGreatDoor.Am
open Go Go.RowKit
set_option linter.unusedVariables false
set_option linter.unusedSimpArgs false
/-- a type: its cells, its elements or fields (offset, type) -/
structure Ti where
  size : Nat
  agg : Bool
  bytes : Nat
  zero : List Value
  el : Option Nat := none
  fs : List (Nat × Nat) := []
  kind : Option TypeDesc := none
  pl : List (Nat × Nat) := []
  sq : Bool := false
  isI : Bool := false
  arr : Option (Nat × Nat) := none
  ms : List (String × FuncId) := []
abbrev Tab := Nat → Option Ti
structure St where
  t : Nat → V
  N : Nat
  h : Hp
  n : Nat
  lo : Nat
def V.imm (x : Value) : V := .d (.v x)
def St.ev (s : St) : Operand → V
  | .tmp t => s.t t
  | .const v => .d (.v v)
  | .global g => .d (.v (.pointer (some ⟨g, 0, none⟩)))
  | .func f => .fn f []
def St.put (s : St) : Option Tmp → V → St
  | none, _ => s
  | some d, x => { s with t := fun i => bif Nat.beq i d then (bif Nat.blt d s.N then x else .d .no) else s.t i }
def upd (h : Hp) (b : Nat) (o : Ob) : Hp := fun i => bif Nat.beq i b then some o else h i
def kil (h : Hp) (b : Nat) : Hp := fun i => bif Nat.beq i b then none else h i
/-- a new box -/
def St.new (s : St) (dst : Option Tmp) (o : Ob) (x : V) : St := { s with h := upd s.h s.n o, n := s.n + 1 }.put dst x
/-- what must be so, and is seen at once -/
def chk : Bool → Prop → Prop
  | true, K => K
  | false, _ => False
theorem chk_iff {b : Bool} {K : Prop} : chk b K ↔ b = true ∧ K := by cases b <;> simp [chk]
/-- cells of a value -/
def V.cells : V → Option (List V)
  | .agg l => some l
  | .d (.agg l) => some (l.map .d)
  | .d (.v (.agg _)) => none
  | .d (.v (.tuple _)) => none
  | .d .no => none
  | .d (.tup _) => none
  | .tup _ => none
  | x => some [x]
def D.toV : D → V
  | .agg l => .agg (l.map .d)
  | .tup l => .tup (l.map fun | .agg k => .agg (k.map .d) | x => .d x)
  | x => .d x
/-- what is data in a value -/
def dat (h : Hp) : V → D
  | .d x => x
  | .bs b => match h b with
    | some (.ar _ z n l) => .sl z l n none
    | some (.fz z n l) => .sl z l n none
    | _ => .no
  | .pt _ _ => .no
  | .ep _ _ => .no
  | .fn f c => .fn f (dats h c)
  | .agg l => .agg (dats h l)
  | .tup l => .tup (dats h l)
  | .ifc t x => .ifc t (dat h x)
  | .yl _ => .no
where dats (h : Hp) : List V → List D
  | [] => []
  | x :: l => dat h x :: dats h l
/-- rows that a value holds: they grow no more -/
def fz1 (h : Hp) (b : Nat) : Hp := fun i => bif Nat.beq i b then (match h b with | some (.ar _ z n l) => some (.fz z n l) | o => o) else h i
def frz (h : Hp) : V → Hp
  | .bs b => fz1 h b
  | .fn _ c => frzs h c
  | .agg l => frzs h l
  | .tup l => frzs h l
  | .ifc _ x => frz h x
  | _ => h
where frzs (h : Hp) : List V → Hp
  | [] => h
  | x :: l => frzs (frz h x) l
/-- integers, strings, truths -/
def bin (op : BinOp) (x y : Value) : Option Value :=
  match x, y with
  | .int k a, .int k' b =>
    match decide (k = k') with
    | false => none
    | true =>
      match op with
      | .add => some (.int k (k.wrap (a + b)))
      | .sub => some (.int k (k.wrap (a - b)))
      | .mul => some (.int k (k.wrap (a * b)))
      | .eql => some (.bool (a == b))
      | .neq => some (.bool (a != b))
      | .lss => some (.bool (decide (a < b)))
      | .leq => some (.bool (decide (a ≤ b)))
      | .gtr => some (.bool (decide (a > b)))
      | .geq => some (.bool (decide (a ≥ b)))
      | _ => none
  | .string a, .string b =>
    match op with
    | .eql => some (.bool (a.toList == b.toList))
    | .neq => some (.bool (!(a.toList == b.toList)))
    | _ => none
  | _, _ => none
/-- a truth is told as a variable -/
def litK (r : Value) (K : Value → Prop) : Prop :=
  match r with
  | .bool b => ∀ v, b = v → K (.bool v)
  | r => K r
theorem litK_is {r : Value} {K : Value → Prop} (h : litK r K) : K r := by
  unfold litK at h
  split at h
  · exact h _ rfl
  · exact h
/-- quotients, whose divisor is not 0; texts put together -/
def binQ (op : BinOp) (x y : Value) (K : Value → Prop) : Prop :=
  match op, x, y with
  | .quo, .int k a, .int k' b => k = k' ∧ b ≠ 0 ∧ K (.int k (k.wrap (a.tdiv b)))
  | .rem, .int k a, .int k' b => k = k' ∧ b ≠ 0 ∧ K (.int k (a.tmod b))
  | .shl, .int k a, .int _ b => 0 ≤ b ∧ K (.int k (k.wrap (a * 2 ^ (min b.toNat k.bits))))
  | .shr, .int k a, .int _ b => 0 ≤ b ∧ K (.int k (a.fdiv (2 ^ (min b.toNat k.bits))))
  | .or, .int k a, .int k' b => k = k' ∧ K (.int k (k.wrap (BitVec.ofInt k.bits a ||| BitVec.ofInt k.bits b).toNat))
  | .add, .string a, .string b => ((a.size + b.size : Nat) : Int) ≤ IntKind.i64.max ∧ K (.string (a ++ b))
  | op, x, y => ∃ r, bin op x y = some r ∧ litK r K
/-- a table says what the program's types are -/
structure TOk (P : Program) (T : Tab) : Prop where
  info : ∀ t r, T t = some r → ∃ i z, P.info? t = some i ∧ i.size = r.size ∧ i.bytes = r.bytes ∧ i.zero = some z ∧ z.cells.toList = r.zero ∧ r.zero.length = r.size ∧ ∀ u, u ∈ r.zero → u.oneCell' = true
  und : ∀ t r, T t = some r → ∃ d, P.underlying t = some d ∧ r.agg = (match d with | .struct _ | .array _ _ => true | _ => false)
  el : ∀ t r e, T t = some r → r.el = some e → P.underlying t = some (.slice e)
  fs : ∀ t r (i : Nat) o ft, T t = some r → r.fs[i]? = some (o, ft) → ∃ fields f, P.underlying t = some (.struct fields) ∧ fields.size = r.fs.length ∧ fields[i]? = some f ∧ f.offset = o ∧ f.type = ft
  pl : ∀ t r, T t = some r → r.pl ≠ [] → ∃ fields, P.underlying t = some (.struct fields) ∧ fields.toList.mapM (fun f => (P.info? f.type).map fun i => (f.offset, i.size)) = some r.pl
  zv : ∀ t r, T t = some r → ∃ i, P.info? t = some i ∧ i.zero = some (if r.agg then .agg r.zero.toArray else r.zero.headD undef)
  ks : ∀ t r k, T t = some r → r.kind = some k → P.underlying t = some k
  arr : ∀ t r n e, T t = some r → r.arr = some (n, e) → P.underlying t = some (.array n e)
  ic : ∀ t r, T t = some r → ∃ d, P.underlying t = some d ∧ r.isI = (match d with | .interface _ => true | _ => false)
  ms : ∀ t r (nm : String) f, T t = some r → (nm, f) ∈ r.ms → ∀ (v : Value) (W : World), (method (P.types.size + Made.depth) t v nm).run P W = .ok (f, v) W
  sq : ∀ t r, T t = some r → r.sq = true → ∃ fields, P.underlying t = some (.struct fields) ∧ P.stoodInHeld t = false ∧ P.eqGuardType P.depth t = false ∧ fields.toList.all (fun f => f.name != "_") = true ∧ fields.toList.map (fun f => (f.offset, f.type)) = r.fs
/-! what is known, told plainly: each value by its constructors -/
def lits : List Nat := [0, 1, 2, 3, 4, 5, 6, 7, 8, 9, 10, 11, 12, 13, 14, 15, 16, 17, 18, 19, 20, 21, 22, 23, 24, 25, 26, 27, 28, 29, 30, 31, 32, 33, 34, 35, 36, 37, 38, 39, 40, 41, 42, 43, 44, 45, 46, 47, 48, 49, 50]
def fN : List Nat → Nat → (Nat → Prop) → Prop
  | [], n, K => K n
  | a :: l, n, K => bif Nat.beq n a then K a else fN l n K
theorem fN_iff {n : Nat} {K : Nat → Prop} : ∀ {l : List Nat}, fN l n K ↔ K n
  | [] => Iff.rfl
  | a :: l => by
    unfold fN
    cases e : Nat.beq n a with
    | true => rw [Nat.eq_of_beq_eq_true e]; rfl
    | false => exact fN_iff
def fX (x : Value) (K : Value → Prop) : Prop :=
  match x with
  | .int k n => K (.int k n)
  | .bool b => K (.bool b)
  | .string s => K (.string s)
  | .slice a n k => K (.slice a n k)
  | .pointer a => K (.pointer a)
  | .tuple l => K (.tuple l)
  | x => K x
def fD : D → (D → Prop) → Prop
  | .v x, K => fX x fun x => K (.v x)
  | .sl z l n c, K => fN lits z fun z => K (.sl z l n c)
  | .fn f c, K => fDs c fun c => K (.fn f c)
  | .agg l, K => fDs l fun l => K (.agg l)
  | .tup l, K => fDs l fun l => K (.tup l)
  | .ifc t x, K => fD x fun x => K (.ifc t x)
  | .no, K => K .no
where fDs : List D → (List D → Prop) → Prop
  | [], K => K []
  | x :: l, K => fD x fun x => fDs l fun l => K (x :: l)
def fV : V → (V → Prop) → Prop
  | .d x, K => fD x fun x => K (.d x)
  | .bs b, K => fN lits b fun b => K (.bs b)
  | .pt b o, K => fN lits b fun b => fN lits o fun o => K (.pt b o)
  | .ep l o, K => K (.ep l o)
  | .fn f c, K => fVs c fun c => K (.fn f c)
  | .agg l, K => fVs l fun l => K (.agg l)
  | .tup l, K => fVs l fun l => K (.tup l)
  | .ifc t x, K => fV x fun x => K (.ifc t x)
  | .yl b, K => fN lits b fun b => K (.yl b)
where fVs : List V → (List V → Prop) → Prop
  | [], K => K []
  | x :: l, K => fV x fun x => fVs l fun l => K (x :: l)
def fMp : List (Value × D) → (List (Value × D) → Prop) → Prop
  | [], K => K []
  | (k, x) :: l, K => fD x fun x => fMp l fun l => K ((k, x) :: l)
def fO : Option Ob → (Option Ob → Prop) → Prop
  | none, K => K none
  | some (.st t l), K => fV.fVs l fun l => K (some (.st t l))
  | some (.ar e z n l), K => fN lits z fun z => K (some (.ar e z n l))
  | some (.fz z n l), K => fN lits z fun z => K (some (.fz z n l))
  | some (.mp l), K => fMp l fun l => K (some (.mp l))
  | some (.lp st pend t N ps asg bd), K => K (some (.lp st pend t N ps asg bd))
theorem fX_iff {x : Value} {K : Value → Prop} : fX x K ↔ K x := by
  unfold fX
  split <;> rfl
mutual
theorem fD_iff : ∀ (x : D) (K : D → Prop), fD x K ↔ K x
  | .v x, K => by rw [fD, fX_iff]
  | .sl .., K => by rw [fD, fN_iff]
  | .fn .., K => by rw [fD, fDs_iff]
  | .agg l, K => by rw [fD, fDs_iff]
  | .tup l, K => by rw [fD, fDs_iff]
  | .ifc t x, K => by rw [fD, fD_iff]
  | .no, K => by rw [fD]
theorem fDs_iff : ∀ (l : List D) (K : List D → Prop), fD.fDs l K ↔ K l
  | [], K => by rw [fD.fDs]
  | x :: l, K => by rw [fD.fDs, fD_iff, fDs_iff]
end
mutual
theorem fV_iff : ∀ (x : V) (K : V → Prop), fV x K ↔ K x
  | .d x, K => by rw [fV, fD_iff]
  | .bs _, K => by rw [fV, fN_iff]
  | .pt .., K => by rw [fV, fN_iff, fN_iff]
  | .ep .., K => by rw [fV]
  | .fn _ c, K => by rw [fV, fVs_iff]
  | .agg l, K => by rw [fV, fVs_iff]
  | .tup l, K => by rw [fV, fVs_iff]
  | .ifc t x, K => by rw [fV, fV_iff]
  | .yl _, K => by rw [fV, fN_iff]
theorem fVs_iff : ∀ (l : List V) (K : List V → Prop), fV.fVs l K ↔ K l
  | [], K => by rw [fV.fVs]
  | x :: l, K => by rw [fV.fVs, fV_iff, fVs_iff]
end
theorem fMp_iff : ∀ (l : List (Value × D)) (K : List (Value × D) → Prop), fMp l K ↔ K l
  | [], K => by rw [fMp]
  | (k, x) :: l, K => by rw [fMp, fD_iff, fMp_iff]
theorem fO_iff {o : Option Ob} {K : Option Ob → Prop} : fO o K ↔ K o := by
  unfold fO
  split <;> first | rfl | rw [fVs_iff] | rw [fN_iff] | rw [fMp_iff]
end Go.Proofs.YtkhgpnbhnipndaaGreatDoor.Am
end
section
/-! How memory and its boxes go on. -/
namespace Go.Proofs.YtkhgpnbhnipndaaGreatDoor.Am
open Go Go.RowKit
set_option linter.unusedVariables false
set_option linter.unusedSimpArgs false
theorem Al.mono {α : Type} {R R' : α → Value → Prop} {l : List α} {us : List Value} (h : Al R l us) (hr : ∀ x u, R x u → R' x u) : Al R' l us := ⟨h.len, fun i x u hx hu => hr _ _ (h.at_ i x u hx hu)⟩
theorem Al.get {α : Type} {R : α → Value → Prop} {l : List α} {us : List Value} (h : Al R l us) {i : Nat} {x : α} (hx : l[i]? = some x) : ∃ u, us[i]? = some u ∧ R x u := by
  have hi : i < us.length := by rw [h.len]; exact (List.getElem?_eq_some_iff.1 hx).1
  exact ⟨us[i], List.getElem?_eq_getElem hi, h.at_ i x _ hx (List.getElem?_eq_getElem hi)⟩
theorem Al.nil {α : Type} {R : α → Value → Prop} : Al R [] [] := ⟨rfl, fun _ _ _ h => by simp at h⟩
theorem Al.cons {α : Type} {R : α → Value → Prop} {x : α} {l : List α} {u : Value} {us : List Value} (h0 : R x u) (h : Al R l us) : Al R (x :: l) (u :: us) := by
  refine ⟨by simp [h.len], fun i y v hy hv => ?_⟩
  cases i with
  | zero => simp at hy hv; subst hy hv; exact h0
  | succ i => exact h.at_ i y v (by simpa using hy) (by simpa using hv)
theorem Al.tl {α : Type} {R : α → Value → Prop} {x : α} {l : List α} {us : List Value} (h : Al R (x :: l) us) : ∃ u vs, us = u :: vs ∧ R x u ∧ Al R l vs := by
  cases us with
  | nil => have := h.len; simp at this
  | cons u vs => exact ⟨u, vs, rfl, h.at_ 0 x u rfl rfl, ⟨by have := h.len; simpa using this, fun i y v hy hv => h.at_ (i + 1) y v (by simpa using hy) (by simpa using hv)⟩⟩
theorem Al.app {α : Type} {R : α → Value → Prop} {l l' : List α} {us us' : List Value} (h : Al R l us) (h' : Al R l' us') : Al R (l ++ l') (us ++ us') := by
  refine ⟨by simp [h.len, h'.len], fun i x u hx hu => ?_⟩
  by_cases hi : i < l.length
  · rw [List.getElem?_append_left hi] at hx
    rw [List.getElem?_append_left (by rw [h.len]; exact hi)] at hu
    exact h.at_ i x u hx hu
  · rw [List.getElem?_append_right (by omega)] at hx
    rw [List.getElem?_append_right (by rw [h.len]; omega), h.len] at hu
    exact h'.at_ _ x u hx hu
theorem Al.sub {α : Type} {R : α → Value → Prop} {l : List α} {us : List Value} (h : Al R l us) (o k : Nat) : Al R ((l.drop o).take k) ((us.drop o).take k) := by
  refine ⟨by simp [h.len], fun i x u hx hu => ?_⟩
  rw [List.getElem?_take] at hx hu
  split at hx
  · rename_i hi
    rw [if_pos hi] at hu
    rw [List.getElem?_drop] at hx hu
    exact h.at_ _ x u hx hu
  · cases hx
theorem Al.map_d {w : World} {S : Nat → Prop} {σ : Sg} {l : List D} {us : List Value} (h : Al (Dr w S) l us) : Al (Vr w S σ) (l.map .d) us := by
  refine ⟨by simp [h.len], fun i x u hx hu => ?_⟩
  rw [List.getElem?_map] at hx
  cases e : l[i]? with
  | none => rw [e] at hx; cases hx
  | some y => rw [e] at hx; cases hx; exact .d (h.at_ i y u e hu)
def updσ (σ : Sg) (n : Nat) (u : Value) : Sg := fun b => if b = n then some u else σ b
theorem base_own {w : World} {n₀ e z m : Nat} {v : Value} {us : List Value} (h : w.ownsRow n₀ e z v m us) : base v = v.ownBlock := by
  rcases h.2 with ⟨rfl, _⟩ | ⟨g, cap, cur, rfl, _⟩ <;> rfl
theorem own_same {w w' : World} {n₀ e z m : Nat} {v : Value} {us : List Value} (h : w.ownsRow n₀ e z v m us) (hb : ∀ g, base v = some g → w'.heap[g]? = w.heap[g]?) : w'.ownsRow n₀ e z v m us := by
  obtain ⟨h1, h2⟩ := h
  refine ⟨h1, ?_⟩
  rcases h2 with h2 | ⟨g, cap, cur, rfl, hg, hh, r⟩
  · exact .inl h2
  · exact .inr ⟨g, cap, cur, rfl, hg, (hb g rfl).trans hh, r⟩
theorem own_lt' {w : World} {n₀ e z m : Nat} {v : Value} {us : List Value} (h : w.ownsRow n₀ e z v m us) (g : Nat) (hb : base v = some g) : n₀ ≤ g ∧ g < w.heap.size := by
  rw [base_own h] at hb
  exact h.lt g hb
section
variable {n₀ : Nat} {w₀ w w' : World} {S₀ S S' : Nat → Prop} {σ σ' : Sg} {h : Hp} {n : Nat} {fr : List Fr}
theorem Bx.lt {b : Nat} {o : Ob} (hb : Bx w S σ n₀ b o) (hl : o.live = true) {u : Value} {g : Nat} (hu : σ b = some u) (hg : base u = some g) : n₀ ≤ g ∧ g < w.heap.size := by
  cases o with
  | st t l =>
    obtain ⟨g', cs, h1, h2, h3, _⟩ := hb
    rw [h1] at hu
    cases hu
    cases hg
    exact ⟨h2, (Array.getElem?_eq_some_iff.1 h3).1⟩
  | ar e z m l =>
    obtain ⟨v, us, h1, h2, _⟩ := hb
    rw [h1] at hu
    cases hu
    exact own_lt' h2 g hg
  | fz z m l => cases hl
  | mp l =>
    obtain ⟨g', es, clock, h1, h2, h3, _⟩ := hb
    rw [h1] at hu
    cases hu
    cases hg
    exact ⟨h2, (Array.getElem?_eq_some_iff.1 h3).1⟩
  | lp st pend t N ps asg bd =>
    obtain ⟨l, r, h1, h2, h3, _⟩ := hb
    rw [h1] at hu
    cases hu
    cases hg
    exact ⟨h2, (Array.getElem?_eq_some_iff.1 h3).1⟩
theorem Bx.mono {b : Nat} {o : Ob} (hb : Bx w S σ n₀ b o) (hs : ∀ g, S g → w'.heap[g]? = w.heap[g]?) (hS : ∀ g, S g → S' g) (hσ : ∀ b u, σ b = some u → σ' b = some u)
    (hk : o.live = true → ∀ u g, σ b = some u → base u = some g → w'.heap[g]? = w.heap[g]?) : Bx w' S' σ' n₀ b o := by
  cases o with
  | st t l =>
    obtain ⟨g, cs, h1, h2, h3, h4, h5⟩ := hb
    exact ⟨g, cs, hσ _ _ h1, h2, (hk rfl _ g h1 rfl).trans h3, h4, h5.mono fun x u hx => hx.mono hs hS hσ⟩
  | ar e z m l =>
    obtain ⟨v, us, h1, h2, h3, h4⟩ := hb
    exact ⟨v, us, hσ _ _ h1, own_same h2 (fun g hg => hk rfl _ g h1 hg), h3, h4.mono fun x u hx => hx.mono hs hS⟩
  | fz z m l =>
    obtain ⟨v, h1, h2⟩ := hb
    exact ⟨v, hσ _ _ h1, h2.mono hs hS⟩
  | mp l =>
    obtain ⟨g, es, clock, h1, h2, h3, h4, h5⟩ := hb
    exact ⟨g, es, clock, hσ _ _ h1, h2, (hk rfl _ g h1 rfl).trans h3, h4, h5.mono fun x u hx => hx.mono hs hS⟩
  | lp st pend t N ps asg bd =>
    obtain ⟨l, r, h1, h2, h3, h4, h5⟩ := hb
    exact ⟨l, r, hσ _ _ h1, h2, (hk rfl _ l h1 rfl).trans h3, h4, fun i => (h5 i).mono hs hS (res_mono hσ _)⟩
theorem HR.to (H : HR n₀ w₀ S₀ S σ h n fr w) {h' : Hp} {n' : Nat} (hB : Below n₀ w w') (hs : ∀ g, S g → w'.heap[g]? = w.heap[g]?) (hS : ∀ g, S g → S' g) (hσ : ∀ b u, σ b = some u → σ' b = some u) (hsS : ∀ g, S' g → g < w'.heap.size) (hs0 : ∀ g, S' g → g < n₀ → S₀ g)
    (hbx : ∀ b o, h' b = some o → Bx w' S' σ' n₀ b o)
    (hsep : ∀ b b' o o', h' b = some o → h' b' = some o' → o.live = true → o'.live = true → b ≠ b' → ∀ u u' g, σ' b = some u → σ' b' = some u' → base u = some g → base u' ≠ some g)
    (hun : ∀ b o, h' b = some o → o.live = true → ∀ u g, σ' b = some u → base u = some g → ¬ S' g)
    (hfr : ∀ b, n' ≤ b → h' b = none ∧ σ' b = none)
    (hd : ∀ d, n₀ ≤ d → w.heap[d]? = some (.deferred (some [])) → ¬ S d → (∀ b o u, h b = some o → o.live = true → σ b = some u → base u ≠ some d) → w'.heap[d]? = w.heap[d]? ∧ ¬ S' d ∧ ∀ b o u, h' b = some o → o.live = true → σ' b = some u → base u ≠ some d) : HR n₀ w₀ S₀ S' σ' h' n' fr w' :=
  ⟨H.old.trans hB, H.le0, H.gl, hs0, hsS, hbx, fun p hp i => (H.fr p hp i).mono hs hS (res_mono hσ _), hsep, hun,
    fun p hp d hdp => by
      obtain ⟨d1, d2, d3, d4⟩ := H.ds p hp d hdp
      obtain ⟨e1, e2, e3⟩ := hd d d1 d2 d3 d4
      exact ⟨d1, e1.trans d2, e2, e3⟩, H.nd, hfr⟩
/-- a world with the same memory -/
theorem HR.drew (H : HR n₀ w₀ S₀ S σ h n fr w) (hh : w'.heap = w.heap) (h1 : w'.os = w.os) (h2 : w'.tape = w.tape) (h3 : w'.output = w.output) : HR n₀ w₀ S₀ S σ h n fr w' :=
  H.to ⟨h1, h2, h3, by rw [hh]; exact Nat.le_refl _, fun k _ => by rw [hh]⟩ (fun g _ => by rw [hh]) (fun _ h => h) (fun _ _ h => h) (fun g hg => by rw [hh]; exact H.sS g hg) H.s0
    (fun b o hb => (H.bx b o hb).mono (fun g _ => by rw [hh]) (fun _ h => h) (fun _ _ h => h) (fun _ _ g _ _ => by rw [hh])) H.sep H.un H.fresh (fun d _ _ d3 d4 => ⟨by rw [hh], d3, d4⟩)
theorem HR.size (H : HR n₀ w₀ S₀ S σ h n fr w) : n₀ ≤ w.heap.size := Nat.le_trans (Nat.le_of_eq H.le0) H.old.size
theorem beq_ne {a b : Nat} (h : a ≠ b) : Nat.beq a b = false := by
  cases e : Nat.beq a b
  · rfl
  · exact absurd (Nat.eq_of_beq_eq_true e) h
theorem upd_eq {h : Hp} {n b : Nat} {o o' : Ob} (hb : upd h n o b = some o') : (b = n ∧ o = o') ∨ (b ≠ n ∧ h b = some o') := by
  unfold upd at hb
  by_cases e : b = n
  · subst e
    simp at hb
    exact .inl ⟨rfl, hb⟩
  · have : Nat.beq b n = false := beq_ne e
    rw [this] at hb
    exact .inr ⟨e, hb⟩
theorem kil_eq {h : Hp} {n b : Nat} {o' : Ob} (hb : kil h n b = some o') : b ≠ n ∧ h b = some o' := by
  unfold kil at hb
  by_cases e : b = n
  · subst e
    simp at hb
  · have : Nat.beq b n = false := beq_ne e
    rw [this] at hb
    exact ⟨e, hb⟩
theorem updσ_ne {σ : Sg} {n b : Nat} {u : Value} (h : b ≠ n) : updσ σ n u b = σ b := if_neg h
theorem updσ_sub (H : HR n₀ w₀ S₀ S σ h n fr w) (u : Value) : ∀ b x, σ b = some x → updσ σ n u b = some x := fun b x hb => by
  by_cases e : b = n
  · subst e
    rw [(H.fresh b (Nat.le_refl _)).2] at hb
    cases hb
  · rw [updσ_ne e]; exact hb
/-- a new box, however it came: of what was, one row at most is written, that is no box's and not shut -/
theorem HR.grow (H : HR n₀ w₀ S₀ S σ h n fr w) {h1 : Hp} (hsub : ∀ b o, h1 b = some o → h b = some o) {row : Option Nat} (hr : ∀ g, row = some g → n₀ ≤ g ∧ ¬ S g) (hrd : ∀ g, row = some g → ∃ b o u, h b = some o ∧ o.live = true ∧ σ b = some u ∧ base u = some g)
    (hrb : ∀ b o u g, h1 b = some o → o.live = true → σ b = some u → base u = some g → row ≠ some g) (hg : w.grownBy w' row) {v : Value} (hv : ∀ g, base v = some g → (row = some g ∨ w.heap.size ≤ g)) {o : Ob}
    (hbx : Bx w' S (updσ σ n v) n₀ n o) : HR n₀ w₀ S₀ S (updσ σ n v) (upd h1 n o) (n + 1) fr w' := by
  have hs : ∀ g, S g → w'.heap[g]? = w.heap[g]? := fun g hSg => hg.block g (H.sS g hSg) (fun e => (hr g e.symm).2 hSg)
  have hσ := updσ_sub H v
  refine H.to ((Below.refl n₀ w).grown hg H.size (fun k hk => (hr k hk).1)) hs (fun _ h => h) hσ (fun g hg' => Nat.lt_of_lt_of_le (H.sS g hg') hg.size) H.s0 ?_ ?_ ?_ ?_ ?_
  · intro b o' hb
    rcases upd_eq hb with ⟨rfl, rfl⟩ | ⟨_, hb⟩
    · exact hbx
    · exact (H.bx b o' (hsub b o' hb)).mono hs (fun _ h => h) hσ (fun hl u g hu hgb => hg.block g ((H.bx b o' (hsub b o' hb)).lt hl hu hgb).2 (fun e => hrb b o' u g hb hl hu hgb e.symm))
  · intro b b' p p' hb hb' hl hl' hne u u' g hu hu' hgu hgu'
    rcases upd_eq hb with ⟨rfl, rfl⟩ | ⟨e, hb0⟩ <;> rcases upd_eq hb' with ⟨e', e''⟩ | ⟨e', hb'⟩
    · exact hne e'.symm
    · rw [updσ_ne e'] at hu'
      simp only [updσ, if_true, Option.some.injEq] at hu
      subst hu
      rcases hv g hgu with hv | hv
      · exact hrb b' p' u' g hb' hl' hu' hgu' hv
      · have := ((H.bx b' p' (hsub b' p' hb')).lt hl' hu' hgu').2; omega
    · subst e'
      rw [updσ_ne e] at hu
      simp only [updσ, if_true, Option.some.injEq] at hu'
      subst hu'
      rcases hv g hgu' with hv | hv
      · exact hrb b p u g hb0 hl hu hgu hv
      · have := ((H.bx b p (hsub b p hb0)).lt hl hu hgu).2; omega
    · rw [updσ_ne e] at hu
      rw [updσ_ne e'] at hu'
      exact H.sep b b' p p' (hsub b p hb0) (hsub b' p' hb') hl hl' hne u u' g hu hu' hgu hgu'
  · intro b p hb hl u g hu hgu hSg
    rcases upd_eq hb with ⟨rfl, rfl⟩ | ⟨e, hb⟩
    · simp only [updσ, if_true, Option.some.injEq] at hu
      subst hu
      rcases hv g hgu with hv | hv
      · exact (hr g hv).2 hSg
      · have := H.sS g hSg; omega
    · rw [updσ_ne e] at hu
      exact H.un b p (hsub b p hb) hl u g hu hgu hSg
  · intro b hb
    have hne : b ≠ n := by omega
    refine ⟨?_, by rw [updσ_ne hne]; exact (H.fresh b (by omega)).2⟩
    cases e : upd h1 n o b with
    | none => rfl
    | some p =>
      rcases upd_eq e with ⟨e', _⟩ | ⟨_, e'⟩
      · exact absurd e' hne
      · have := hsub b p e'
        rw [(H.fresh b (by omega)).1] at this
        cases this
  · intro d d1 d2 d3 d4
    have hlt := (Array.getElem?_eq_some_iff.1 d2).1
    refine ⟨hg.block d hlt (fun e => ?_), d3, fun b p u hb hl hu hgu => ?_⟩
    · obtain ⟨b, o, u, e1, e2, e3, e4⟩ := hrd d e.symm
      exact d4 b o u e1 e2 e3 e4
    · rcases upd_eq hb with ⟨rfl, rfl⟩ | ⟨e, hb⟩
      · simp only [updσ, if_true, Option.some.injEq] at hu
        subst hu
        rcases hv d hgu with hv | hv
        · obtain ⟨b, o, u, e1, e2, e3, e4⟩ := hrd d hv
          exact d4 b o u e1 e2 e3 e4
        · omega
      · rw [updσ_ne e] at hu
        exact d4 b p u (hsub b p hb) hl hu hgu
theorem HR.newSt (H : HR n₀ w₀ S₀ S σ h n fr w) {t : TypeId} {cs : Array Value} {l : List V} (h1 : ∀ u, u ∈ cs.toList → u.oneCell' = true) (hal : Al (Vr w S σ) l cs.toList) :
    HR n₀ w₀ S₀ S (updσ σ n (.pointer (some ⟨w.heap.size, 0, none⟩))) (upd h n (.st t l)) (n + 1) fr (w.alloc (.cells cs t)) := by
  refine H.grow (row := none) (fun _ _ h => h) (fun g e => by cases e) (fun g e => by cases e) (fun _ _ _ _ _ _ _ _ e => by cases e) (World.grownBy_alloc _ _ _) (fun g hg => .inr (by cases hg; exact Nat.le_refl _)) ?_
  refine ⟨w.heap.size, cs, by simp [updσ], H.size, ha_new w _, h1, hal.mono fun x u hx => hx.mono (fun g hg => ?_) (fun _ h => h) (updσ_sub H _)⟩
  exact ha_old w _ (H.sS g hg)
theorem HR.newAr (H : HR n₀ w₀ S₀ S σ h n fr w) {e z m : Nat} {l : List D} {us : List Value} {v : Value} (hg : w.grownBy w' none) (hv : v.ownBlock = none ∨ v.ownBlock = some w.heap.size) (hown : w'.ownsRow n₀ e z v m us)
    (h1 : ∀ u, u ∈ us → u.oneCell' = true) (hal : Al (Dr w S) l us) : HR n₀ w₀ S₀ S (updσ σ n v) (upd h n (.ar e z m l)) (n + 1) fr w' := by
  refine H.grow (row := none) (fun _ _ h => h) (fun g e => by cases e) (fun g e => by cases e) (fun _ _ _ _ _ _ _ _ e => by cases e) hg (fun g hg' => .inr ?_) ⟨v, us, by simp [updσ], hown, h1, hal.mono fun x u hx => hx.mono (fun g hSg => hg.block g (H.sS g hSg) (by simp)) (fun _ h => h)⟩
  rw [base_own hown] at hg'
  rcases hv with hv | hv <;> rw [hv] at hg' <;> cases hg'
  exact Nat.le_refl _
theorem HR.appAr (H : HR n₀ w₀ S₀ S σ h n fr w) {b e z k m : Nat} {l l' : List D} {us us' : List Value} {u v : Value} (hb : h b = some (.ar e z k l)) (hu : σ b = some u) (hg : w.grownBy w' u.ownBlock) (hv : v.ownBlock = u.ownBlock ∨ v.ownBlock = some w.heap.size)
    (ho : w.ownsRow n₀ e z u k us) (hown : w'.ownsRow n₀ e z v m us') (h1 : ∀ x, x ∈ us' → x.oneCell' = true) (hal : Al (Dr w S) l' us') : HR n₀ w₀ S₀ S (updσ σ n v) (upd (kil h b) n (.ar e z m l')) (n + 1) fr w' := by
  have hbu := base_own ho
  refine H.grow (row := u.ownBlock) (fun b' o' hb' => (kil_eq hb').2) (fun g e => ?_) (fun g e => ⟨b, _, u, hb, rfl, hu, hbu.trans e⟩) (fun b' o' u' g hb' hl hu' hg' e => ?_) hg (fun g hg' => ?_) ⟨v, us', by simp [updσ], hown, h1, hal.mono fun x y hx => hx.mono (fun g hSg => hg.block g (H.sS g hSg) ?_) (fun _ h => h)⟩
  · rw [← hbu] at e
    exact ⟨(own_lt' ho g e).1, H.un b _ hb rfl u g hu e⟩
  · rw [← hbu] at e
    exact H.sep b b' _ _ hb (kil_eq hb').2 rfl hl (kil_eq hb').1.symm u u' g hu hu' e hg'
  · rw [base_own hown] at hg'
    rcases hv with hv | hv <;> rw [hv] at hg'
    · exact .inl hg'
    · cases hg'; exact .inr (Nat.le_refl _)
  · rw [← hbu]
    exact fun e => H.un b _ hb rfl u g hu e.symm hSg
theorem HR.appAr2 (H : HR n₀ w₀ S₀ S σ h n fr w) {b e z k m : Nat} {l l' : List D} {us us' : List Value} {u v : Value} (hb : h b = some (.ar e z k l)) (hu : σ b = some u) (hg : w.grownBy w' u.ownBlock) (hv : ∀ g, v.ownBlock = some g → u.ownBlock = some g ∨ w.heap.size ≤ g)
    (ho : w.ownsRow n₀ e z u k us) (hown : w'.ownsRow n₀ e z v m us') (h1 : ∀ x, x ∈ us' → x.oneCell' = true) (hal : Al (Dr w S) l' us') : HR n₀ w₀ S₀ S (updσ σ n v) (upd (kil h b) n (.ar e z m l')) (n + 1) fr w' := by
  have hbu := base_own ho
  refine H.grow (row := u.ownBlock) (fun b' o' hb' => (kil_eq hb').2) (fun g e => ?_) (fun g e => ⟨b, _, u, hb, rfl, hu, hbu.trans e⟩) (fun b' o' u' g hb' hl hu' hg' e => ?_) hg (fun g hg' => ?_) ⟨v, us', by simp [updσ], hown, h1, hal.mono fun x y hx => hx.mono (fun g hSg => hg.block g (H.sS g hSg) ?_) (fun _ h => h)⟩
  · rw [← hbu] at e
    exact ⟨(own_lt' ho g e).1, H.un b _ hb rfl u g hu e⟩
  · rw [← hbu] at e
    exact H.sep b b' _ _ hb (kil_eq hb').2 rfl hl (kil_eq hb').1.symm u u' g hu hu' e hg'
  · rw [base_own hown] at hg'
    exact hv g hg'
  · rw [← hbu]
    exact fun e => H.un b _ hb rfl u g hu e.symm hSg
/-- a row grows no more -/
theorem HR.fz1 (H : HR n₀ w₀ S₀ S σ h n fr w) (b : Nat) : ∃ S', HR n₀ w₀ S₀ S' σ (Am.fz1 h b) n fr w ∧ ∀ g, S g → S' g := by
  cases hb : h b with
  | none =>
    have e : Am.fz1 h b = h := by
      funext i
      unfold Am.fz1
      cases hi : Nat.beq i b
      · rfl
      · rw [Nat.eq_of_beq_eq_true hi, hb]; rfl
    rw [e]
    exact ⟨S, H, fun _ h => h⟩
  | some o =>
    cases o with
    | st t l =>
      have e : Am.fz1 h b = h := by
        funext i
        unfold Am.fz1
        cases hi : Nat.beq i b
        · rfl
        · rw [Nat.eq_of_beq_eq_true hi, hb]; rfl
      rw [e]
      exact ⟨S, H, fun _ h => h⟩
    | fz z m l =>
      have e : Am.fz1 h b = h := by
        funext i
        unfold Am.fz1
        cases hi : Nat.beq i b
        · rfl
        · rw [Nat.eq_of_beq_eq_true hi, hb]; rfl
      rw [e]
      exact ⟨S, H, fun _ h => h⟩
    | mp l =>
      have e : Am.fz1 h b = h := by
        funext i
        unfold Am.fz1
        cases hi : Nat.beq i b
        · rfl
        · rw [Nat.eq_of_beq_eq_true hi, hb]; rfl
      rw [e]
      exact ⟨S, H, fun _ h => h⟩
    | lp st pend t N ps asg bd =>
      have e : Am.fz1 h b = h := by
        funext i
        unfold Am.fz1
        cases hi : Nat.beq i b
        · rfl
        · rw [Nat.eq_of_beq_eq_true hi, hb]; rfl
      rw [e]
      exact ⟨S, H, fun _ h => h⟩
    | ar e z m l =>
      obtain ⟨v, us, h1, h2, h3, h4⟩ := H.bx b _ hb
      have key : ∀ i o', Am.fz1 h b i = some o' → (i = b ∧ o' = .fz z m l) ∨ (i ≠ b ∧ h i = some o') := by
        intro i o' hi
        unfold Am.fz1 at hi
        by_cases e' : i = b
        · subst e'
          simp [hb] at hi
          exact .inl ⟨rfl, hi.symm⟩
        · have : Nat.beq i b = false := beq_ne e'
          rw [this] at hi
          exact .inr ⟨e', hi⟩
      refine ⟨fun g => S g ∨ base v = some g, H.to (Below.refl _ _) (fun _ _ => rfl) (fun _ h => .inl h) (fun _ _ h => h) ?_ (fun g hg hlt => hg.elim (fun h => H.s0 g h hlt) (fun h => by have := (own_lt' h2 g h).1; omega)) ?_ ?_ ?_ ?_ ?_, fun _ h => .inl h⟩
      · rintro g (hg | hg)
        · exact H.sS g hg
        · exact (own_lt' h2 g hg).2
      · intro i o' hi
        rcases key i o' hi with ⟨rfl, rfl⟩ | ⟨_, hi⟩
        · refine ⟨v, h1, ?_⟩
          rcases h2.2 with ⟨rfl, rfl⟩ | ⟨g, cap, cur, rfl, hg, hh, hn, hc, hs, ht⟩
          · have : l = [] := List.eq_nil_of_length_eq_zero (by rw [← h4.len, h2.1]; simp)
            subst this
            exact .nil z none (fun _ e => by cases e)
          · refine .sl g 0 cap us (by rw [← h4.len, h2.1]) hn hc (fun _ e => by cases e) (.inr rfl) h4.len ?_ h3 (fun i x u hx hu => (h4.at_ i x u hx hu).mono (fun _ _ => rfl) (fun _ h => .inl h))
            intro i u hu
            rw [Nat.zero_add, h2.cellAt i (by rw [← h2.1]; exact (List.getElem?_eq_some_iff.1 hu).1)]
            exact hu
        · exact (H.bx i o' hi).mono (fun _ _ => rfl) (fun _ h => .inl h) (fun _ _ h => h) (fun _ _ _ _ _ => rfl)
      · intro i i' o1 o2 hi hi' hl hl' hne
        rcases key i o1 hi with ⟨rfl, rfl⟩ | ⟨_, hi⟩
        · cases hl
        · rcases key i' o2 hi' with ⟨rfl, rfl⟩ | ⟨_, hi'⟩
          · cases hl'
          · exact H.sep i i' o1 o2 hi hi' hl hl' hne
      · intro i o1 hi hl u g hu hg hS
        rcases key i o1 hi with ⟨rfl, rfl⟩ | ⟨hne, hi⟩
        · cases hl
        · rcases hS with hS | hS
          · exact H.un i o1 hi hl u g hu hg hS
          · exact H.sep i b o1 _ hi hb hl rfl hne u v g hu h1 hg hS
      · intro i hi
        refine ⟨?_, (H.fresh i hi).2⟩
        cases e' : Am.fz1 h b i with
        | none => rfl
        | some o' =>
          rcases key i o' e' with ⟨rfl, _⟩ | ⟨_, e'⟩
          · rw [(H.fresh i hi).1] at hb; cases hb
          · rw [(H.fresh i hi).1] at e'; cases e'
      · intro d d1 d2 d3 d4
        refine ⟨rfl, fun hS => hS.elim d3 (d4 b _ v hb rfl h1), fun i p u hi hl hu => ?_⟩
        rcases key i p hi with ⟨rfl, rfl⟩ | ⟨_, hi⟩
        · cases hl
        · exact d4 i p u hi hl hu
theorem HR.row_lt (H : HR n₀ w₀ S₀ S σ h n fr w) {b : Nat} {o : Ob} (hb : h b = some o) (hl : o.live = true) {u : Value} {g : Nat} (hu : σ b = some u) (hg : base u = some g) : n₀ ≤ g ∧ g < w.heap.size := (H.bx b o hb).lt hl hu hg
/-- a box's block is written (or the box is given up) -/
theorem HR.wrg (H : HR n₀ w₀ S₀ S σ h n fr w) {b : Nat} {o : Ob} (hb : h b = some o) (hl : o.live = true) {u : Value} {g : Nat} (hu : σ b = some u) (hg : base u = some g) (hgb : w.grownBy w' (some g)) {h' : Hp}
    (hk : ∀ b1 p1, h' b1 = some p1 → (b1 = b ∧ Bx w' S σ n₀ b p1) ∨ (b1 ≠ b ∧ h b1 = some p1)) : HR n₀ w₀ S₀ S σ h' n fr w' := by
  have hlt := H.row_lt hb hl hu hg
  have hs : ∀ g', S g' → w'.heap[g']? = w.heap[g']? := fun g' hS => hgb.block g' (H.sS g' hS) (fun e => by cases e; exact H.un b o hb hl u g hu hg hS)
  refine H.to ((Below.refl n₀ w).grown hgb H.size (fun k hk => by cases hk; exact hlt.1)) hs (fun _ h => h) (fun _ _ h => h) (fun g' hS => by have := H.sS g' hS; have := hgb.size; omega) H.s0 ?_ ?_ ?_ ?_ ?_
  · intro b' p hp
    rcases hk b' p hp with ⟨rfl, hbx⟩ | ⟨e, hp⟩
    · exact hbx
    · exact (H.bx b' p hp).mono hs (fun _ h => h) (fun _ _ h => h) (fun hlp u' g' hu' hg' => hgb.block g' (H.row_lt hp hlp hu' hg').2 (fun e' => by cases e'; exact H.sep b b' o p hb hp hl hlp (Ne.symm e) u u' g hu hu' hg hg'))
  · intro b1 b2 p1 p2 h1 h2 l1 l2 hne
    have k1 : ∃ p, h b1 = some p ∧ p.live = true := by
      rcases hk b1 p1 h1 with ⟨rfl, _⟩ | ⟨_, h1⟩
      · exact ⟨o, hb, hl⟩
      · exact ⟨p1, h1, l1⟩
    have k2 : ∃ p, h b2 = some p ∧ p.live = true := by
      rcases hk b2 p2 h2 with ⟨rfl, _⟩ | ⟨_, h2⟩
      · exact ⟨o, hb, hl⟩
      · exact ⟨p2, h2, l2⟩
    obtain ⟨q1, a1, c1⟩ := k1
    obtain ⟨q2, a2, c2⟩ := k2
    exact H.sep b1 b2 q1 q2 a1 a2 c1 c2 hne
  · intro b1 p1 h1 l1
    rcases hk b1 p1 h1 with ⟨rfl, _⟩ | ⟨_, h1⟩
    · exact H.un _ o hb hl
    · exact H.un b1 p1 h1 l1
  · intro b1 h1
    refine ⟨?_, (H.fresh b1 h1).2⟩
    cases e : h' b1 with
    | none => rfl
    | some p =>
      rcases hk b1 p e with ⟨rfl, _⟩ | ⟨_, e⟩
      · rw [(H.fresh _ h1).1] at hb; cases hb
      · rw [(H.fresh _ h1).1] at e; cases e
  · intro d d1 d2 d3 d4
    refine ⟨hgb.block d (Array.getElem?_eq_some_iff.1 d2).1 (fun e => by cases e; exact d4 b o u hb hl hu hg), d3, fun b1 p1 u1 h1 l1 => ?_⟩
    rcases hk b1 p1 h1 with ⟨rfl, _⟩ | ⟨_, h1⟩
    · exact d4 _ o u1 hb hl
    · exact d4 b1 p1 u1 h1 l1
theorem HR.wr (H : HR n₀ w₀ S₀ S σ h n fr w) {b : Nat} {o o' : Ob} (hb : h b = some o) (hl : o.live = true) {u : Value} {g : Nat} (hu : σ b = some u) (hg : base u = some g) {cs : Array Value}
    (hbx : Bx (w.setRow g cs) S σ n₀ b o') : HR n₀ w₀ S₀ S σ (upd h b o') n fr (w.setRow g cs) :=
  H.wrg (w' := w.setRow g cs) hb hl hu hg ⟨rfl, rfl, rfl, by simp, fun k _ hk => setRow_other w g k _ (fun e => hk (by rw [e]))⟩ fun b1 p1 h1 => (upd_eq h1).imp (fun ⟨e, e'⟩ => ⟨e, by subst e'; exact hbx⟩) id
theorem Al.take {α : Type} {R : α → Value → Prop} {l : List α} {us : List Value} (h : Al R l us) (k : Nat) : Al R (l.take k) (us.take k) := by simpa using h.sub 0 k
theorem Al.drop {α : Type} {R : α → Value → Prop} {l : List α} {us : List Value} (h : Al R l us) (k : Nat) : Al R (l.drop k) (us.drop k) :=
  ⟨by simp [h.len], fun i x u hx hu => by rw [List.getElem?_drop] at hx hu; exact h.at_ _ x u hx hu⟩
end
end Go.Proofs.YtkhgpnbhnipndaaGreatDoor.Am
end
section
/-! Data out of values; calls. -/
namespace Go.Proofs.YtkhgpnbhnipndaaGreatDoor.Am
open Go Go.RowKit
set_option linter.unusedVariables false
set_option linter.unusedSimpArgs false
theorem dats_len {h : Hp} : ∀ (l : List V), (dat.dats h l).length = l.length
  | [] => rfl
  | x :: l => congrArg Nat.succ (dats_len l)
section
variable {n₀ : Nat} {w₀ w w' : World} {S₀ S S' : Nat → Prop} {σ σ' : Sg} {h : Hp} {n : Nat} {fr : List Fr}
theorem Dr.any {x : D} {v : Value} (hx : Dr w S x v) : Dr w (fun _ => True) x v := hx.mono (fun _ _ => rfl) (fun _ _ => trivial)
/-- two heaps whose rows say the same -/
def Sm (h h' : Hp) : Prop := ∀ b, dat h (.bs b) = dat h' (.bs b)
theorem fz1_sm (b : Nat) : Sm h (fz1 h b) := by
  intro i
  unfold fz1
  by_cases e : i = b
  · subst e
    simp only [dat, Nat.beq_refl, cond_true]
    cases h i with
    | none => rfl
    | some o => cases o <;> rfl
  · simp only [dat, beq_ne e, cond_false]
mutual
theorem dat_sm {h h' : Hp} (hs : Sm h h') : ∀ (x : V), dat h x = dat h' x
  | .d _ => rfl
  | .bs b => hs b
  | .pt _ _ => rfl
  | .ep _ _ => rfl
  | .fn f c => by simp only [dat]; rw [dats_sm hs c]
  | .agg c => by simp only [dat]; rw [dats_sm hs c]
  | .tup c => by simp only [dat]; rw [dats_sm hs c]
  | .ifc t x => by simp only [dat]; rw [dat_sm hs x]
  | .yl _ => rfl
theorem dats_sm {h h' : Hp} (hs : Sm h h') : ∀ (l : List V), dat.dats h l = dat.dats h' l
  | [] => rfl
  | x :: l => by simp only [dat.dats]; rw [dat_sm hs x, dats_sm hs l]
end
/-- the rows of a value grow no more: what it says is shut -/
def Sh (n₀ : Nat) (w₀ : World) (S₀ S : Nat → Prop) (σ : Sg) (h h' : Hp) (n : Nat) (fr : List Fr) (w : World) (G : (Nat → Prop) → Prop) : Prop :=
  Sm h h' ∧ ∃ S', HR n₀ w₀ S₀ S' σ h' n fr w ∧ (∀ g, S g → S' g) ∧ G S'
mutual
theorem frz_ok : ∀ (x : V) (v : Value) (h : Hp) (S : Nat → Prop), HR n₀ w₀ S₀ S σ h n fr w → Vr w S σ x v → Sh n₀ w₀ S₀ S σ h (frz h x) n fr w (fun S' => Dr w S' (dat h x) v)
  | .d x, v, h, S, H, hx => by cases hx with | d hx => exact ⟨fun _ => rfl, S, H, fun _ h => h, hx⟩
  | .bs b, v, h, S, H, hx => by
    cases hx with
    | bs hx _ =>
      obtain ⟨S', H', hS⟩ := H.fz1 b
      refine ⟨fz1_sm b, S', H', hS, ?_⟩
      rw [dat_sm (fz1_sm b)]
      cases e : Am.fz1 h b b with
      | none => simp only [dat, e]; exact .no v
      | some o =>
        cases o with
        | st t l => simp only [dat, e]; exact .no v
        | lp => simp only [dat, e]; exact .no v
        | mp => simp only [dat, e]; exact .no v
        | ar t z m l =>
          unfold Am.fz1 at e
          simp only [Nat.beq_refl, cond_true] at e
          cases e2 : h b with
          | none => rw [e2] at e; cases e
          | some o => rw [e2] at e; cases o <;> cases e
        | fz z m l =>
          obtain ⟨v', h1, h2⟩ := H'.bx b _ e
          rw [hx] at h1
          cases h1
          simp only [dat, e]
          exact h2
  | .pt _ _, v, h, S, H, _ => ⟨fun _ => rfl, S, H, fun _ h => h, .no v⟩
  | .ep _ _, v, h, S, H, _ => ⟨fun _ => rfl, S, H, fun _ h => h, .no v⟩
  | .yl _, v, h, S, H, _ => ⟨fun _ => rfl, S, H, fun _ h => h, .no v⟩
  | .fn f c, v, h, S, H, hx => by
    cases hx with
    | fn vs h1 h2 =>
      obtain ⟨h3, S', h4, h5, h6⟩ := frzs_ok c vs h S H h1 h2
      exact ⟨h3, S', h4, h5, .fn vs (by rw [h1]; exact (dats_len c).symm) h6⟩
  | .agg c, v, h, S, H, hx => by
    cases hx with
    | agg vs h1 h0 h2 =>
      obtain ⟨h3, S', h4, h5, h6⟩ := frzs_ok c vs h S H h1 h2
      exact ⟨h3, S', h4, h5, .agg vs (by rw [h1]; exact (dats_len c).symm) h0 h6⟩
  | .tup c, v, h, S, H, hx => by
    cases hx with
    | tup vs h1 h2 =>
      obtain ⟨h3, S', h4, h5, h6⟩ := frzs_ok c vs h S H h1 h2
      exact ⟨h3, S', h4, h5, .tup vs (by rw [h1]; exact (dats_len c).symm) h6⟩
  | .ifc t x, v, h, S, H, hx => by
    cases hx with
    | ifc hx =>
      obtain ⟨h3, S', h4, h5, h6⟩ := frz_ok x _ h S H hx
      exact ⟨h3, S', h4, h5, .ifc h6⟩
theorem frzs_ok : ∀ (l : List V) (vs : List Value) (h : Hp) (S : Nat → Prop), HR n₀ w₀ S₀ S σ h n fr w → vs.length = l.length → (∀ (i : Nat) x u, l[i]? = some x → vs[i]? = some u → Vr w S σ x u) → Sh n₀ w₀ S₀ S σ h (frz.frzs h l) n fr w (fun S' => ∀ (i : Nat) x u, (dat.dats h l)[i]? = some x → vs[i]? = some u → Dr w S' x u)
  | [], _, h, S, H, _, _ => ⟨fun _ => rfl, S, H, fun _ h => h, fun i x u hx _ => by simp [dat.dats] at hx⟩
  | y :: l, [], h, S, H, hlen, _ => by simp at hlen
  | y :: l, v :: vs, h, S, H, hlen, hl => by
    obtain ⟨h3, S', h4, h5, h6⟩ := frz_ok y v h S H (hl 0 y v rfl rfl)
    obtain ⟨k3, S2, k4, k5, k6⟩ := frzs_ok l vs (frz h y) S' h4 (by simpa using hlen) (fun j a c ha hc => (hl (j + 1) a c (by simpa using ha) (by simpa using hc)).mono (fun _ _ => rfl) h5 (fun _ _ h => h))
    refine ⟨fun b => (h3 b).trans (k3 b), S2, k4, fun g hg => k5 g (h5 g hg), fun i x u hx hu => ?_⟩
    cases i with
    | zero =>
      simp only [dat.dats, List.getElem?_cons_zero, Option.some.injEq] at hx hu
      subst hx hu
      exact h6.mono (fun _ _ => rfl) k5
    | succ i =>
      simp only [dat.dats, List.getElem?_cons_succ] at hx hu
      rw [dats_sm h3] at hx
      exact k6 i x u hx hu
end
end
end Go.Proofs.YtkhgpnbhnipndaaGreatDoor.Am
end
section
/-! Frames; what becomes of an operation's value; calls. -/
namespace Go.Proofs.YtkhgpnbhnipndaaGreatDoor.Am
open Go Go.RowKit
set_option linter.unusedVariables false
set_option linter.unusedSimpArgs false
/-- a fence that bars nothing -/
def Free (F : Fence) : Prop := F = Fence.wide ∨ ∃ l, F = Fence.wide.inRound l
theorem Free.fn {F : Fence} (h : Free F) (f : FuncId) : F.fn f := by rcases h with rfl | ⟨l, rfl⟩ <;> trivial
theorem Free.depth {F : Fence} (h : Free F) : F.depth = none := by rcases h with rfl | ⟨l, rfl⟩ <;> rfl
theorem Free.calls {F : Fence} (h : Free F) {n : Nat} {P : Program} {f : FuncId} {args : Array Value} {w : World} {R : Ending → World → Prop} (hc : Calls P f args w R) : CallsIn F n P f args w R := by
  rcases h with rfl | ⟨l, rfl⟩
  · exact callsIn_wide.2 hc
  · exact (callsIn_wide (n := n)).2 hc
section
variable {n₀ : Nat} {w₀ w w' : World} {S₀ S S' : Nat → Prop} {σ σ' : Sg} {h : Hp} {n k : Nat} {fr : List Fr} {P : Program} {T : Tab} {F : Fence} {o : Oper} {s : St} {a : Act} {Q : Exit → Act → World → Prop} {K : St → Prop}
/-- the blocks of deferred calls that a frame bears -/
def dsOf (l : List Deferred) : List Nat := l.filterMap fun d => match d.target with | .collected r => some r | _ => none
structure SR (n₀ : Nat) (w₀ : World) (S₀ S : Nat → Prop) (σ : Sg) (s : St) (fr : List Fr) (a : Act) (w : World) : Prop where
  h : HR n₀ w₀ S₀ S σ s.h s.n (⟨s.t, a.tmps, none, dsOf a.defers⟩ :: fr) w
  lo : ∀ p, p ∈ fr → ∃ l, p.lo = some l ∧ l ≤ s.lo
  lon : s.lo ≤ s.n
  N : a.tmps.size = s.N
  d : ∀ d, d ∈ a.defers → ∃ r, d = ⟨.collected r, #[]⟩
/-- some state of which K holds -/
def Gd (n₀ : Nat) (w₀ : World) (S₀ : Nat → Prop) (fr : List Fr) (K : St → Prop) (a : Act) (w : World) : Prop := ∃ s S σ, K s ∧ SR n₀ w₀ S₀ S σ s fr a w
theorem HR.fr' (H : HR n₀ w₀ S₀ S σ h n fr w) {fr' : List Fr} (hf : ∀ p, p ∈ fr' → ∀ i, Vr w S (res σ p.lo) (p.t i) (p.v.getD i undef)) (hd : fr'.map Fr.ds = fr.map Fr.ds) : HR n₀ w₀ S₀ S σ h n fr' w := ⟨H.old, H.le0, H.gl, H.s0, H.sS, H.bx, hf, H.sep, H.un, fun p hp d hdp => by
    have hm : p.ds ∈ fr.map Fr.ds := by rw [← hd]; exact List.mem_map_of_mem hp
    obtain ⟨q, hq, e⟩ := List.mem_map.1 hm
    exact H.ds q hq d (by rw [e]; exact hdp), by rw [hd]; exact H.nd, H.fresh⟩
theorem SR.ev (H : SR n₀ w₀ S₀ S σ s fr a w) (x : Operand) : Vr w S σ (s.ev x) (a.eval x) := by
  cases x with
  | tmp t => exact H.h.fr _ List.mem_cons_self t
  | const v => exact .d (.v v)
  | global g => exact .d (.v _)
  | func f => exact .fn [] rfl (fun i x u hx => by simp at hx)
theorem put_def (a : Act) (dst : Option Tmp) (v : Value) : (a.put dst v).defers = a.defers := by cases dst <;> rfl
theorem put_fr (H : HR n₀ w₀ S₀ S σ h n (⟨s.t, a.tmps, none, dsOf a.defers⟩ :: fr) w) (hN : a.tmps.size = s.N) {x : V} {v : Value} (hx : Vr w S σ x v) (dst : Option Tmp) (h' : Hp) (n' : Nat) :
    HR n₀ w₀ S₀ S σ h n (⟨(({ s with h := h', n := n' } : St).put dst x).t, (a.put dst v).tmps, none, dsOf (a.put dst v).defers⟩ :: fr) w := by
  refine H.fr' (fun p hp i => ?_) (by simp [put_def])
  rcases List.mem_cons.1 hp with rfl | hp
  · have hi := H.fr _ List.mem_cons_self i
    cases dst with
    | none => exact hi
    | some d =>
      simp only [St.put, Act.put]
      by_cases e : i = d
      · subst e
        simp only [Nat.beq_refl, cond_true]
        by_cases hlt : i < s.N
        · have : Nat.blt i s.N = true := by simpa [Nat.blt_eq] using hlt
          simp only [this, cond_true]
          have : (a.tmps.setIfInBounds i v).getD i undef = v := by simp [hN, hlt]
          rw [this]
          exact hx
        · have : Nat.blt i s.N = false := by
            cases e : Nat.blt i s.N
            · rfl
            · exact absurd (by rw [Nat.blt_eq] at e; exact e) hlt
          simp only [this, cond_false]
          exact .d (.no _)
      · simp only [beq_ne e, cond_false]
        have : (a.tmps.setIfInBounds d v).getD i undef = a.tmps.getD i undef := by
          simp [Array.getElem?_setIfInBounds_ne (Ne.symm e)]
        rw [this]
        exact hi
  · exact H.fr p (List.mem_cons_of_mem _ hp) i
theorem put_size (a : Act) (dst : Option Tmp) (v : Value) : (a.put dst v).tmps.size = a.tmps.size := by cases dst <;> simp [Act.put]
theorem put_N (s : St) (dst : Option Tmp) (x : V) : (s.put dst x).N = s.N := by cases dst <;> rfl
theorem put_hn (s : St) (dst : Option Tmp) (x : V) : (s.put dst x).h = s.h ∧ (s.put dst x).n = s.n := by cases dst <;> exact ⟨rfl, rfl⟩
theorem put_lo (s : St) (dst : Option Tmp) (x : V) : (s.put dst x).lo = s.lo := by cases dst <;> rfl
/-- an operation that is no defer, and its run -/
theorem wp_of_run {K' : Act → World → Prop} (hF : Free F) (hd : ∀ c, o.op ≠ .defer c) (hu : o.uponIn F k P a K' Q ((execOp a.eval o).run P w)) : o.wpIn F k P a w K' Q :=
  ⟨fun f _ => hF.fn f, by rw [Oper.semAt_eq _ _ _ hd]; exact hu⟩
/-- a value comes out -/
theorem val_ok (hF : Free F) (hd : ∀ c, o.op ≠ .defer c) {x : V} {v : Value} {h' : Hp} {n' : Nat} (hr : (execOp a.eval o).run P w = .ok (.value v) w') (H : HR n₀ w₀ S₀ S σ h' n' (⟨s.t, a.tmps, none, dsOf a.defers⟩ :: fr) w') (hN : a.tmps.size = s.N) (hln : s.lo ≤ n') (hL : ∀ p, p ∈ fr → ∃ l, p.lo = some l ∧ l ≤ s.lo) (hD : ∀ d, d ∈ a.defers → ∃ r, d = ⟨.collected r, #[]⟩)
    (hx : Vr w' S σ x v) (hK : K (({ s with h := h', n := n' } : St).put o.dst x)) : o.wpIn F k P a w (Gd n₀ w₀ S₀ fr K) Q := by
  refine wp_of_run hF hd ?_
  rw [hr]
  refine ⟨_, S, σ, hK, ?_, by rw [put_lo]; exact hL, by rw [put_lo, (put_hn _ _ _).2]; exact hln, by rw [put_size, put_N]; exact hN, by rw [put_def]; exact hD⟩
  rw [(put_hn _ _ _).1, (put_hn _ _ _).2]
  exact put_fr H hN hx o.dst h' n'
/-- nothing comes out -/
theorem skip_ok (hF : Free F) (hd : ∀ c, o.op ≠ .defer c) {h' : Hp} {n' : Nat} (hr : (execOp a.eval o).run P w = .ok .skip w') (H : HR n₀ w₀ S₀ S σ h' n' (⟨s.t, a.tmps, none, dsOf a.defers⟩ :: fr) w') (hN : a.tmps.size = s.N) (hln : s.lo ≤ n') (hL : ∀ p, p ∈ fr → ∃ l, p.lo = some l ∧ l ≤ s.lo) (hD : ∀ d, d ∈ a.defers → ∃ r, d = ⟨.collected r, #[]⟩)
    (hK : K (({ s with h := h', n := n' } : St).put o.dst (.d .no))) : o.wpIn F k P a w (Gd n₀ w₀ S₀ fr K) Q := by
  refine wp_of_run hF hd ?_
  rw [hr]
  refine ⟨_, S, σ, hK, ?_, by rw [put_lo]; exact hL, by rw [put_lo, (put_hn _ _ _).2]; exact hln, by rw [put_size, put_N]; exact hN, by rw [put_def]; exact hD⟩
  rw [(put_hn _ _ _).1, (put_hn _ _ _).2]
  exact put_fr H hN (.d (.no _)) o.dst h' n'
end
end Go.Proofs.YtkhgpnbhnipndaaGreatDoor.Am
end
section
/-! Operations: what each asks, and that it is enough. -/
namespace Go.Proofs.YtkhgpnbhnipndaaGreatDoor.Am
open Go Go.RowKit
set_option linter.unusedVariables false
set_option linter.unusedSimpArgs false
section
variable (T : Tab)
/-- cells put over others -/
def putCells {α : Type} (l : List α) (o : Nat) (c : List α) : List α := l.take o ++ c ++ l.drop (o + c.length)
/-- cells that are data -/
def allD : List V → Option (List D)
  | [] => some []
  | .d x :: l => match allD l with
    | some q => some (x :: q)
    | none => none
  | _ => none
def boxP (e : TypeId) (x : V) (s : St) (dst : Option Tmp) (K : St → Prop) : Prop :=
  match x.cells with
  | some l => K (s.new dst (.st e l) (.pt s.n 0))
  | none => False
def allocP (e : TypeId) (s : St) (dst : Option Tmp) (K : St → Prop) : Prop :=
  match T e with
  | some r => K (s.new dst (.st e (r.zero.map .imm)) (.pt s.n 0))
  | none => False
def loadP (t : TypeId) (x : V) (h : Hp) (K : V → Prop) : Prop :=
  match T t with
  | none => False
  | some r =>
    match x with
    | .pt b off => match h b with
      | some (.st _ l) => bif r.agg then chk (Nat.ble (off + r.size) l.length) (K (.agg ((l.drop off).take r.size))) else ∃ y, l[off]? = some y ∧ K y
      | some (.ar _ _ _ l) => bif r.agg then off + r.size ≤ l.length ∧ ∃ q, (l.drop off).take r.size = q ∧ K (.agg (q.map .d)) else ∃ y, l[off]? = some y ∧ K (.d y)
      | _ => False
    | .ep l off => bif r.agg then off + r.size ≤ l.length ∧ ∃ q, (l.drop off).take r.size = q ∧ K (.agg (q.map .d)) else ∃ y, l[off]? = some y ∧ K (.d y)
    | _ => False
def storeP (t : TypeId) (x y : V) (h : Hp) (K : Hp → Prop) : Prop :=
  match T t with
  | none => False
  | some r =>
    match y.cells with
    | none => False
    | some c => chk (Nat.beq c.length r.size) <|
      match x with
      | .pt b off => match h b with
        | some (.st e l) => chk (Nat.ble (off + r.size) l.length) (K (upd h b (.st e (putCells l off c))))
        | some (.ar e z n l) => off + r.size ≤ l.length ∧ (match allD c with | some q => K (upd h b (.ar e z n (putCells l off q))) | none => False)
        | _ => False
      | _ => False
def fieldAddrP (t : TypeId) (x : V) (i : Nat) (K : V → Prop) : Prop :=
  match T t with
  | none => False
  | some r => match r.fs[i]? with
    | none => False
    | some (o, ft) => match T ft with
      | none => False
      | some q => chk (!(Nat.beq q.size 0)) <| match x with
        | .pt b off => K (.pt b (off + o))
        | .ep l off => K (.ep l (off + o))
        | _ => False
def fieldP (t : TypeId) (x : V) (i : Nat) (K : V → Prop) : Prop :=
  match T t with
  | none => False
  | some r => match r.fs[i]? with
    | none => False
    | some (o, ft) => match T ft with
      | none => False
      | some q => match x with
        | .agg l => bif q.agg then K (.agg ((l.drop o).take q.size)) else ∃ y, l[o]? = some y ∧ K y
        | _ => False
/-- the elements of a row, and how many -/
def row (h : Hp) : V → Option (Nat × List D × Nat)
  | .d (.sl z l n _) => some (z, l, n)
  | .d (.v (.slice none 0 0)) => some (1, [], 0)
  | .bs b => match h b with
    | some (.ar _ z n l) => some (z, l, n)
    | some (.fz z n l) => some (z, l, n)
    | _ => none
  | _ => none
def lenP (t : TypeId) (h : Hp) (x : V) (K : V → Prop) : Prop :=
  match T t with
  | none => False
  | some r => match x with
    | .d (.v (.string s)) => (match r.kind with | some .string => K (.imm (.int .i64 s.size)) | _ => False)
    | x => (match r.el with
      | none => False
      | some _ => match row h x with
        | some (_, _, n) => K (.imm (.int .i64 n))
        | none => False)
def indexAddrP (t : TypeId) (x i : V) (h : Hp) (K : V → Prop) : Prop :=
  match T t with
  | none => False
  | some r => match r.el with
    | none => False
    | some e => match T e with
      | none => False
      | some q => match i with
        | .d (.v (.int _ j)) => 0 ≤ j ∧ (match x with
          | .d (.sl z l n _) => j < n ∧ chk (Nat.beq z q.size) (K (.ep l (j.toNat * q.size)))
          | .bs b => match h b with
            | some (.ar _ z n _) => j < n ∧ chk (Nat.beq z q.size) (K (.pt b (j.toNat * q.size)))
            | some (.fz z n l) => j < n ∧ chk (Nat.beq z q.size) (K (.ep l (j.toNat * q.size)))
            | _ => False
          | _ => False)
        | _ => False
/-- elements of an array -/
def arrOf (t : TypeId) : Option (Nat × Nat) := (T t).bind (·.arr)
def arrAP (p : Nat × Nat) (x i : V) (K : V → Prop) : Prop :=
  match T p.2 with
  | none => False
  | some q => match x, i with
    | .pt b off, .d (.v (.int _ j)) => 0 ≤ j ∧ j < (p.1 : Int) ∧ K (.pt b (off + j.toNat * q.size))
    | _, _ => False
def arrIx (p : Nat × Nat) (x i : V) (K : V → Prop) : Prop :=
  match T p.2 with
  | none => False
  | some q => chk (Nat.beq q.size 1 && !q.agg) <| match x, i with
    | .agg l, .d (.v (.int _ j)) => 0 ≤ j ∧ j < (p.1 : Int) ∧ ∃ y, l[j.toNat]? = some y ∧ K y
    | .d (.agg l), .d (.v (.int _ j)) => 0 ≤ j ∧ j < (p.1 : Int) ∧ ∃ y, l[j.toNat]? = some y ∧ K (.d y)
    | _, _ => False
def strIx (x i : V) (K : V → Prop) : Prop :=
  match x, i with
  | .d (.v (.string s)), .d (.v (.int _ j)) => 0 ≤ j ∧ j < s.size ∧ ∃ c, s[j.toNat]? = some c ∧ K (.imm (.int .u8 c.toNat))
  | _, _ => False
/-- onto what a row is appended: a row of one's own, or none -/
def appP (t : TypeId) (x y : V) (h : Hp) (n : Nat) (K : V → Hp → Nat → Prop) : Prop :=
  match T t with
  | none => False
  | some r => match r.el with
    | none => False
    | some e => match T e with
      | none => False
      | some q => chk (Nat.blt 0 q.size) <| match row h y with
        | none => False
        | some (z, l, m) => chk (Nat.beq z q.size || Nat.beq m 0) <| match x with
          | .d (.v (.slice none 0 0)) => m ≤ maxLen ∧ m * q.bytes ≤ 140737488355328 ∧ K (.bs n) (upd h n (.ar e q.size m l)) (n + 1)
          | .d (.sl z' l' k (some c)) => chk (Nat.beq z' q.size) <| (m = 0 → K (.d (.sl z' l' k (some c))) h n) ∧ (m ≠ 0 → c = k ∧ k + m ≤ maxLen ∧ (k + m) * q.bytes ≤ 140737488355328 ∧ K (.bs n) (upd h n (.ar e z' (k + m) (l' ++ l))) (n + 1))
          | .bs b => (match h b with
            | some (.ar e' z' k l') => chk (Nat.beq e' e && Nat.beq z' q.size) <| k + m ≤ maxLen ∧ (k + m) * q.bytes ≤ 140737488355328 ∧ K (.bs n) (upd (kil h b) n (.ar e z' (k + m) (l' ++ l))) (n + 1)
            | _ => False)
          | _ => False
end
section
variable {n₀ : Nat} {w₀ w w' : World} {S₀ S S' : Nat → Prop} {σ σ' : Sg} {h : Hp} {n k : Nat} {fr : List Fr} {P : Program} {T : Tab} {F : Fence} {o : Oper} {s : St} {a : Act} {Q : Exit → Act → World → Prop} {K : St → Prop}
theorem oneCell_of {x : Value} (h : x.oneCell' = true) : x.cells = #[x] := by
  cases x <;> first | rfl | (simp [Value.oneCell'] at h)
/-- the cells of a value -/
theorem cells_ok {x : V} {v : Value} {l : List V} (hx : Vr w S σ x v) (hc : x.cells = some l) : Al (Vr w S σ) l v.cells.toList ∧ ∀ u, u ∈ v.cells.toList → u.oneCell' = true := by
  have one : ∀ {y : V} {u : Value}, Vr w S σ y u → u.oneCell' = true → l = [y] → Al (Vr w S σ) l u.cells.toList ∧ ∀ x, x ∈ u.cells.toList → x.oneCell' = true := by
    rintro y u hy hu rfl
    rw [oneCell_of hu]
    exact ⟨.cons hy .nil, fun x hx => by simp at hx; subst hx; exact hu⟩
  cases hx with
  | d hx =>
    cases hx with
    | v => cases v <;> simp [V.cells] at hc <;> exact one (.d (.v _)) rfl hc.symm
    | no => simp [V.cells] at hc
    | nil z c h => simp [V.cells] at hc; exact one (.d (.nil z c h)) rfl hc.symm
    | emp z c a h => simp [V.cells] at hc; exact one (.d (.emp z c a h)) rfl hc.symm
    | sl g o k us h1 h2 h3 h4 h5 h6 h7 h8 h9 => simp [V.cells] at hc; exact one (.d (.sl g o k us h1 h2 h3 h4 h5 h6 h7 h8 h9)) rfl hc.symm
    | fn vs h1 h2 => simp [V.cells] at hc; exact one (.d (.fn vs h1 h2)) rfl hc.symm
    | agg vs h1 h0 h2 =>
      simp [V.cells] at hc
      subst hc
      exact ⟨Al.map_d ⟨by simpa [Value.cells] using h1, fun i x u hx hu => h2 i x u hx (by simpa [Value.cells] using hu)⟩, by simpa [Value.cells] using h0⟩
    | tup vs h1 h2 => simp [V.cells] at hc
    | ifc hx => simp [V.cells] at hc; exact one (.d (.ifc hx)) rfl hc.symm
  | bs hx h1 => simp [V.cells] at hc; exact one (.bs hx h1) h1 hc.symm
  | pt u h1 h2 => simp [V.cells] at hc; exact one (.pt u h1 h2) rfl hc.symm
  | ep g p us h1 h2 h3 h4 h5 => simp [V.cells] at hc; exact one (.ep g p us h1 h2 h3 h4 h5) rfl hc.symm
  | fn vs h1 h2 => simp [V.cells] at hc; exact one (.fn vs h1 h2) rfl hc.symm
  | agg vs h1 h0 h2 =>
    simp [V.cells] at hc
    subst hc
    exact ⟨⟨by simpa [Value.cells] using h1, fun i x u hx hu => h2 i x u hx (by simpa [Value.cells] using hu)⟩, by simpa [Value.cells] using h0⟩
  | tup vs h1 h2 => simp [V.cells] at hc
  | ifc hx => simp [V.cells] at hc; exact one (.ifc hx) rfl hc.symm
  | yl h1 => simp [V.cells] at hc; exact one (.yl h1) rfl hc.symm
theorem box_ok (hF : Free F) (H : SR n₀ w₀ S₀ S σ s fr a w) {e : TypeId} {x : Operand} (ho : o.op = .box e x) (hp : boxP e (s.ev x) s o.dst K) : o.wpIn F k P a w (Gd n₀ w₀ S₀ fr K) Q := by
  unfold boxP at hp
  split at hp
  · rename_i l hl
    obtain ⟨h1, h2⟩ := cells_ok (H.ev x) hl
    refine val_ok hF (fun c hc => by rw [ho] at hc; cases hc) ?_ (H.h.newSt (t := e) h2 h1) H.N (by have := H.lon; omega) H.lo H.d (.pt (.pointer (some ⟨w.heap.size, 0, none⟩)) (by simp [updσ]) rfl) hp
    simp [execOp, ho, Instr.box, newVar, newRow]
  · exact hp.elim
theorem alloc_ok (hT : TOk P T) (hF : Free F) (H : SR n₀ w₀ S₀ S σ s fr a w) {e : TypeId} (ho : o.op = .alloc e) (hp : allocP T e s o.dst K) : o.wpIn F k P a w (Gd n₀ w₀ S₀ fr K) Q := by
  unfold allocP at hp
  split at hp
  · rename_i r hr
    obtain ⟨i, z, h1, h2, h3, h4, h5, h6, h7⟩ := hT.info e r hr
    have hal : Al (Vr w S σ) (r.zero.map .imm) z.cells.toList := by
      rw [h5]
      refine ⟨by simp, fun j x u hx hu => ?_⟩
      rw [List.getElem?_map, hu] at hx
      cases hx
      exact .d (.v u)
    refine val_ok hF (fun c hc => by rw [ho] at hc; cases hc) ?_ (H.h.newSt (t := e) (by rw [h5]; exact h7) hal) H.N (by have := H.lon; omega) H.lo H.d (.pt (.pointer (some ⟨w.heap.size, 0, none⟩)) (by simp [updσ]) rfl) hp
    simp [execOp, ho, Instr.alloc, zeroValue, typeInfo, h1, h4, newVar, newRow]
  · exact hp.elim
theorem allD_ok : ∀ {c : List V} {q : List D} {us : List Value}, allD c = some q → Al (Vr w S σ) c us → Al (Dr w S) q us
  | [], q, us, h, hal => by
    cases h
    cases us with
    | nil => exact .nil
    | cons u us => have := hal.len; simp at this
  | .d y :: c, q, us, h, hal => by
    obtain ⟨u, vs, rfl, h1, h2⟩ := hal.tl
    unfold allD at h
    split at h
    · rename_i q' hq'
      cases h
      cases h1 with
      | d h1 => exact .cons h1 (allD_ok hq' h2)
    · cases h
  | .bs _ :: _, _, _, h, _ | .pt _ _ :: _, _, _, h, _ | .ep _ _ :: _, _, _, h, _ | .fn _ _ :: _, _, _, h, _ | .agg _ :: _, _, _, h, _ | .tup _ :: _, _, _, h, _ | .ifc _ _ :: _, _, _, h, _ => by cases h
theorem seg_take {α : Type} (cur c us : List α) (o m : Nat) (h : cur.take m = us) (hm : o + c.length ≤ us.length) : (cur.take o ++ c ++ cur.drop (o + c.length)).take m = us.take o ++ c ++ us.drop (o + c.length) := by
  subst h
  simp only [List.length_take] at hm
  have e1 : (cur.take m).take o = cur.take o := by rw [List.take_take]; congr 1; omega
  have e2 : (cur.take o ++ c).length = o + c.length := by simp; omega
  rw [List.take_append, e2, e1, List.drop_take, List.take_of_length_le (by omega)]
theorem run_isAgg' (hT : TOk P T) {t : TypeId} {r : Ti} (hr : T t = some r) (w : World) : (isAgg t).run P w = .ok r.agg w := by
  obtain ⟨d, h1, h2⟩ := hT.und t r hr
  simp only [isAgg, Sem.run_bind, run_underlying h1, Result.andThen_ok]
  rw [h2]
  cases d <;> rfl
theorem run_size' (hT : TOk P T) {t : TypeId} {r : Ti} (hr : T t = some r) (w : World) : (sizeOf t).run P w = .ok r.size w := by
  obtain ⟨i, z, h1, h2, _⟩ := hT.info t r hr
  simp [sizeOf, typeInfo, h1, h2]
/-- a load, of cells that are there -/
theorem run_load' (hT : TOk P T) {t : TypeId} {r : Ti} (hr : T t = some r) {g p off : Nat} {us : List Value} (hc : ∀ i u, us[i]? = some u → w.cell? ⟨g, p + i, none⟩ = some u) :
    (r.agg = true → off + r.size ≤ us.length → (Instr.loadAt t (.pointer (some ⟨g, p + off, none⟩))).run P w = .ok (.agg ((us.drop off).take r.size).toArray) w) ∧
    (r.agg = false → ∀ u, us[off]? = some u → (Instr.loadAt t (.pointer (some ⟨g, p + off, none⟩))).run P w = .ok u w) := by
  constructor
  · intro ha hl
    have hlen : ((us.drop off).take r.size).length = r.size := by simp; omega
    have := run_loadCells_list (P := P) w ⟨g, p + off, none⟩ ((us.drop off).take r.size) (fun j v hj => by
      rw [Addr.add_lit]
      rw [List.getElem?_take] at hj
      split at hj
      · rw [List.getElem?_drop] at hj
        have := hc _ v hj
        rw [← Nat.add_assoc] at this
        exact this
      · cases hj)
    rw [hlen] at this
    simp [Instr.loadAt, Instr.sureAddr, loadVar, run_isAgg' hT hr, ha, run_size' hT hr, this]
  · intro ha u hu
    simp [Instr.loadAt, Instr.sureAddr, loadVar, run_isAgg' hT hr, ha, hc off u hu]
theorem one_sub {us : List Value} (h : ∀ u, u ∈ us → u.oneCell' = true) (o k : Nat) : ∀ u, u ∈ ((us.drop o).take k).toArray.toList → u.oneCell' = true := fun u hu => h u (List.mem_of_mem_drop (List.mem_of_mem_take (by simpa using hu)))
theorem load_ok (hT : TOk P T) (hF : Free F) (H : SR n₀ w₀ S₀ S σ s fr a w) {t : TypeId} {x : Operand} (ho : o.op = .load t x) (hp : loadP T t (s.ev x) s.h (fun v => K (s.put o.dst v))) : o.wpIn F k P a w (Gd n₀ w₀ S₀ fr K) Q := by
  have hx := H.ev x
  have hd : ∀ c, o.op ≠ .defer c := fun c hc => by rw [ho] at hc; cases hc
  have fin : ∀ {v : Value} {y : V}, (Instr.loadAt t (a.eval x)).run P w = .ok v w → Vr w S σ y v → K (s.put o.dst y) → o.wpIn F k P a w (Gd n₀ w₀ S₀ fr K) Q := fun h1 h2 h3 =>
    val_ok hF hd (by simp [execOp, ho, h1]) H.h H.N (by have := H.lon; omega) H.lo H.d h2 h3
  have core : ∀ {g p off : Nat} {us : List Value} {l : List V} {r : Ti}, T t = some r → a.eval x = .pointer (some ⟨g, p + off, none⟩) → (∀ i u, us[i]? = some u → w.cell? ⟨g, p + i, none⟩ = some u) → (∀ u, u ∈ us → u.oneCell' = true) → Al (Vr w S σ) l us →
      (bif r.agg then off + r.size ≤ l.length ∧ K (s.put o.dst (.agg ((l.drop off).take r.size))) else ∃ y, l[off]? = some y ∧ K (s.put o.dst y)) → o.wpIn F k P a w (Gd n₀ w₀ S₀ fr K) Q := by
    intro g p off us l r hr he hc h1 hal hk
    obtain ⟨c1, c2⟩ := run_load' hT hr (off := off) hc
    cases ha : r.agg with
    | true =>
      rw [ha] at hk
      obtain ⟨k1, k2⟩ := hk
      refine fin (by rw [he]; exact c1 ha (by rw [hal.len]; exact k1)) (.agg _ ?_ (by simpa using one_sub h1 off r.size) ?_) k2
      · exact (hal.sub off r.size).len
      · exact (hal.sub off r.size).at_
    | false =>
      rw [ha] at hk
      obtain ⟨y, k1, k2⟩ := hk
      obtain ⟨u, hu, hyu⟩ := hal.get k1
      exact fin (by rw [he]; exact c2 ha u hu) hyu k2
  unfold loadP at hp
  split at hp
  · exact hp.elim
  rename_i r hr
  split at hp
  · rename_i b off hxb
    rw [hxb] at hx
    generalize hv : a.eval x = v at hx
    cases hx with
    | pt u hu hg =>
      split at hp
      · rename_i tt l hb
        obtain ⟨g', cs, h1, h2, h3, h4, h5⟩ := H.h.bx b _ hb
        rw [hu] at h1
        cases h1
        cases hg
        refine core (p := 0) (us := cs.toList) hr (by rw [hv, Nat.zero_add]) (fun i u hi => by rw [Nat.zero_add, cell_of_row w _ _ cs tt _ h3]; simpa using hi) h4 h5 ?_
        revert hp
        cases r.agg
        · exact id
        · intro hp
          replace hp := chk_iff.1 hp
          obtain ⟨h6, hp⟩ := hp
          exact ⟨Nat.le_of_ble_eq_true h6, hp⟩
      · rename_i e z m l hb
        obtain ⟨v', us, h1, h2, h3, h4⟩ := H.h.bx b _ hb
        rw [hu] at h1
        cases h1
        rcases h2.2 with ⟨rfl, _⟩ | ⟨g', cap, cur, rfl, hg', hh, hn, hc, hs, ht⟩
        · cases hg
        · cases hg
          refine core (p := 0) (us := us) (l := l.map .d) hr (by rw [hv, Nat.zero_add]) (fun i u hi => ?_) h3 h4.map_d ?_
          · rw [Nat.zero_add, h2.cellAt i (by rw [← h2.1]; exact (List.getElem?_eq_some_iff.1 hi).1)]
            exact hi
          · revert hp
            cases r.agg
            · rintro ⟨y, h5, h6⟩
              exact ⟨.d y, by simp [h5], h6⟩
            · rintro ⟨h5, q, hq, h6⟩
              subst hq
              exact ⟨by simpa using h5, by simpa [List.map_drop, List.map_take] using h6⟩
      · exact hp.elim
  · rename_i l off hxb
    rw [hxb] at hx
    generalize hv : a.eval x = v at hx
    cases hx with
    | ep g p us h1 h2 h3 h4 h5 =>
      refine core (us := us) (l := l.map .d) hr hv h3 h4 (Al.map_d ⟨h2, h5⟩) ?_
      revert hp
      cases r.agg
      · rintro ⟨y, h5, h6⟩
        exact ⟨.d y, by simp [h5], h6⟩
      · rintro ⟨h5, q, hq, h6⟩
        subst hq
        exact ⟨by simpa using h5, by simpa [List.map_drop, List.map_take] using h6⟩
  · exact hp.elim
theorem loadP_val (hT : TOk P T) (H : HR n₀ w₀ S₀ S σ h n fr w) {t : TypeId} {x : V} {u : Value} {K : V → Prop} (hx : Vr w S σ x u) (hp : loadP T t x h K) : ∃ v y, (Instr.loadAt t u).run P w = .ok v w ∧ Vr w S σ y v ∧ K y ∧ ∃ ad, u = .pointer (some ad) := by
  have core : ∀ {g p off : Nat} {us : List Value} {l : List V} {r : Ti}, T t = some r → u = .pointer (some ⟨g, p + off, none⟩) → (∀ i u, us[i]? = some u → w.cell? ⟨g, p + i, none⟩ = some u) → (∀ u, u ∈ us → u.oneCell' = true) → Al (Vr w S σ) l us →
      (bif r.agg then off + r.size ≤ l.length ∧ K (.agg ((l.drop off).take r.size)) else ∃ y, l[off]? = some y ∧ K y) → ∃ v y, (Instr.loadAt t u).run P w = .ok v w ∧ Vr w S σ y v ∧ K y ∧ ∃ ad, u = .pointer (some ad) := by
    intro g p off us l r hr he hc h1 hal hk
    obtain ⟨c1, c2⟩ := run_load' hT hr (off := off) hc
    cases ha : r.agg with
    | true =>
      rw [ha] at hk
      obtain ⟨k1, k2⟩ := hk
      refine ⟨_, _, (by rw [he]; exact c1 ha (by rw [hal.len]; exact k1)), .agg _ ?_ (by simpa using one_sub h1 off r.size) ?_, k2, _, he⟩
      · exact (hal.sub off r.size).len
      · exact (hal.sub off r.size).at_
    | false =>
      rw [ha] at hk
      obtain ⟨y, k1, k2⟩ := hk
      obtain ⟨u', hu, hyu⟩ := hal.get k1
      exact ⟨_, _, (by rw [he]; exact c2 ha u' hu), hyu, k2, _, he⟩
  unfold loadP at hp
  split at hp
  · exact hp.elim
  rename_i r hr
  split at hp
  · rename_i b off
    cases hx with
    | pt u hu hg =>
      split at hp
      · rename_i tt l hb
        obtain ⟨g', cs, h1, h2, h3, h4, h5⟩ := H.bx b _ hb
        rw [hu] at h1
        cases h1
        cases hg
        refine core (p := 0) (us := cs.toList) hr (by rw [Nat.zero_add]) (fun i u hi => by rw [Nat.zero_add, cell_of_row w _ _ cs tt _ h3]; simpa using hi) h4 h5 ?_
        revert hp
        cases r.agg
        · exact id
        · intro hp
          replace hp := chk_iff.1 hp
          obtain ⟨h6, hp⟩ := hp
          exact ⟨Nat.le_of_ble_eq_true h6, hp⟩
      · rename_i e z m l hb
        obtain ⟨v', us, h1, h2, h3, h4⟩ := H.bx b _ hb
        rw [hu] at h1
        cases h1
        rcases h2.2 with ⟨rfl, _⟩ | ⟨g', cap, cur, rfl, hg', hh, hn, hc, hs, ht⟩
        · cases hg
        · cases hg
          refine core (p := 0) (us := us) (l := l.map .d) hr (by rw [Nat.zero_add]) (fun i u hi => ?_) h3 h4.map_d ?_
          · rw [Nat.zero_add, h2.cellAt i (by rw [← h2.1]; exact (List.getElem?_eq_some_iff.1 hi).1)]
            exact hi
          · revert hp
            cases r.agg
            · rintro ⟨y, h5, h6⟩
              exact ⟨.d y, by simp [h5], h6⟩
            · rintro ⟨h5, q, hq, h6⟩
              subst hq
              exact ⟨by simpa using h5, by simpa [List.map_drop, List.map_take] using h6⟩
      · exact hp.elim
  · rename_i l off
    cases hx with
    | ep g p us h1 h2 h3 h4 h5 =>
      refine core (us := us) (l := l.map .d) hr rfl h3 h4 (Al.map_d ⟨h2, h5⟩) ?_
      revert hp
      cases r.agg
      · rintro ⟨y, h5, h6⟩
        exact ⟨.d y, by simp [h5], h6⟩
      · rintro ⟨h5, q, hq, h6⟩
        subst hq
        exact ⟨by simpa using h5, by simpa [List.map_drop, List.map_take] using h6⟩
  · exact hp.elim
theorem store_ok (hT : TOk P T) (hF : Free F) (H : SR n₀ w₀ S₀ S σ s fr a w) {t : TypeId} {x y : Operand} (ho : o.op = .store t x y) (hp : storeP T t (s.ev x) (s.ev y) s.h (fun h => K (({ s with h } : St).put o.dst (.d .no)))) : o.wpIn F k P a w (Gd n₀ w₀ S₀ fr K) Q := by
  have hx := H.ev x
  have hy := H.ev y
  have hd : ∀ c, o.op ≠ .defer c := fun c hc => by rw [ho] at hc; cases hc
  unfold storeP at hp
  split at hp
  · exact hp.elim
  rename_i r hr
  split at hp
  · exact hp.elim
  rename_i c hc
  replace hp := chk_iff.1 hp
  obtain ⟨hlen, hp⟩ := hp
  have hlen := Nat.eq_of_beq_eq_true hlen
  obtain ⟨hal, hone⟩ := cells_ok hy hc
  have hsz : (a.eval y).cells.size = r.size := by rw [← hlen, ← hal.len, Array.length_toList]
  have core : ∀ {g off : Nat} {cs : Array Value} {e : TypeId}, a.eval x = .pointer (some ⟨g, off, none⟩) → w.heap[g]? = some (.cells cs e (0, 0)) → off + r.size ≤ cs.size →
      (execOp a.eval o).run P w = .ok .skip (w.setRow g (cs.toList.take off ++ (a.eval y).cells.toList ++ cs.toList.drop (off + (a.eval y).cells.toList.length)).toArray) := by
    intro g off cs e he hg hfit
    have := run_storeCells_at P g off e (a.eval y).cells.toList 0 cs w hg (by rw [Array.length_toList, hsz]; simpa using hfit) hone
    simp only [Nat.add_zero] at this
    simp [execOp, ho, Instr.storeAt, Instr.sureAddr, he, storeVar, run_size' hT hr, hsz, this]
  split at hp
  · rename_i b off hxb
    rw [hxb] at hx
    generalize hv : a.eval x = v at hx
    cases hx with
    | pt u hu hg =>
      split at hp
      · rename_i tt l hb
        obtain ⟨g', cs, h1, h2, h3, h4, h5⟩ := H.h.bx b _ hb
        rw [hu] at h1
        cases h1
        cases hg
        have hcl : l.length = cs.size := by rw [← h5.len, Array.length_toList]
        replace hp := chk_iff.1 hp
        obtain ⟨hpl, hp⟩ := hp
        refine skip_ok hF hd (core hv h3 (by rw [← hcl]; exact Nat.le_of_ble_eq_true hpl)) (H.h.wr (o' := .st tt (putCells l off c)) hb rfl hu rfl ?_) H.N (by have := H.lon; omega) H.lo H.d hp
        have hs : ∀ g1, S g1 → (w.setRow g' (cs.toList.take off ++ (a.eval y).cells.toList ++ cs.toList.drop (off + (a.eval y).cells.toList.length)).toArray).heap[g1]? = w.heap[g1]? := fun g1 hS => setRow_other w g' g1 _ (fun e => by subst e; exact H.h.un b _ hb rfl _ _ hu rfl hS)
        refine ⟨g', _, hu, h2, setRow_heap w g' cs _ tt _ h3, ?_, ?_⟩
        · intro q hq
          simp only [List.append_assoc, List.mem_append] at hq
          rcases hq with hq | hq | hq
          · exact h4 q (List.mem_of_mem_take hq)
          · exact hone q hq
          · exact h4 q (List.mem_of_mem_drop hq)
        · simp only [putCells]
          rw [← hal.len]
          exact (((h5.take off).app hal).app (h5.drop _)).mono fun q u hq => hq.mono hs (fun _ h => h) (fun _ _ h => h)
      · rename_i e z m l hb
        obtain ⟨v', us, h1, h2, h3, h4⟩ := H.h.bx b _ hb
        rw [hu] at h1
        cases h1
        rcases h2.2 with ⟨rfl, _⟩ | ⟨g', cap, cur, rfl, hg', hh, hn, hcm, hcs, ht⟩
        · cases hg
        · cases hg
          obtain ⟨hfit, hp⟩ := hp
          split at hp
          · rename_i q hq
            have hus : us.length = m * z := h2.1
            have hml : m * z ≤ cap * z := Nat.mul_le_mul_right _ hn
            have hlu : l.length = us.length := h4.len.symm
            have hcl : (a.eval y).cells.toList.length = r.size := by rw [Array.length_toList, hsz]
            refine skip_ok hF hd (core hv hh (by omega)) (H.h.wr (o' := .ar e z m (putCells l off q)) hb rfl hu rfl ?_) H.N (by have := H.lon; omega) H.lo H.d hp
            have hs : ∀ g1, S g1 → (w.setRow g' (cur.toList.take off ++ (a.eval y).cells.toList ++ cur.toList.drop (off + (a.eval y).cells.toList.length)).toArray).heap[g1]? = w.heap[g1]? := fun g1 hS => setRow_other w g' g1 _ (fun e => by subst e; exact H.h.un b _ hb rfl _ _ hu rfl hS)
            have hqa := allD_ok hq hal
            refine ⟨_, us.take off ++ (a.eval y).cells.toList ++ us.drop (off + (a.eval y).cells.toList.length), hu, ⟨?_, .inr ⟨g', cap, _, rfl, hg', setRow_heap w g' cur _ e _ hh, hn, hcm, ?_, ?_⟩⟩, ?_, ?_⟩
            · simp only [List.length_append, List.length_take, List.length_drop]
              omega
            · simp only [List.size_toArray, List.length_append, List.length_take, List.length_drop, Array.length_toList]
              omega
            · exact seg_take cur.toList _ us off (m * z) ht (by omega)
            · intro q hq
              simp only [List.append_assoc, List.mem_append] at hq
              rcases hq with hq | hq | hq
              · exact h3 q (List.mem_of_mem_take hq)
              · exact hone q hq
              · exact h3 q (List.mem_of_mem_drop hq)
            · simp only [putCells]
              rw [← hqa.len]
              exact (((h4.take off).app hqa).app (h4.drop _)).mono fun q u hq => hq.mono hs (fun _ h => h)
          · exact hp.elim
      · exact hp.elim
  · exact hp.elim
end
end Go.Proofs.YtkhgpnbhnipndaaGreatDoor.Am
end
