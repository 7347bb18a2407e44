/- What the law leans on, part 8: declarations of several texts of ours, in their order. -/
import Derived.Test.YtkhgpnbhnipndaaGreatDoorXFS6
import Derived.Great.BuildSlice
import Derived.Laws.Slices
import Derived.Laws.CopyRow
import Derived.ArgAppend
import Derived.MapKept
import Derived.Carry
import Derived.Laws.IdiomCopy
import Derived.Laws.BytesArg
section
/-! Rows: elements, lengths, growing, slicing. -/
namespace Go.Proofs.YtkhgpnbhnipndaaGreatDoor.Am
open Go Go.RowKit
set_option linter.unusedVariables false
set_option linter.unusedSimpArgs false
section
variable (T : Tab)
/-- a row of one's own, made -/
def makeP (t : TypeId) (x y : V) (h : Hp) (n : Nat) (K : V → Hp → Nat → Prop) : Prop :=
  match T t with
  | none => False
  | some r => match r.el with
    | none => False
    | some e => match T e with
      | none => False
      | some q => match x, y with
        | .d (.v (.int _ j)), .d (.v (.int _ j')) => j = j' ∧ 0 ≤ j ∧ j.toNat ≤ maxLen ∧ q.bytes * j.toNat ≤ 281474976710656 ∧ chk (Nat.beq q.size 1) (match q.zero with | [z] => K (.bs n) (upd h n (.ar e 1 j.toNat (List.replicate j.toNat (.v z)))) (n + 1) | _ => False)
        | _, _ => False
/-- a row's elements over those of a row of one's own -/
def copyP (t : TypeId) (x y : V) (h : Hp) (K : V → Hp → Prop) : Prop :=
  match T t with
  | none => False
  | some r => match r.el with
    | none => False
    | some e => match T e with
      | none => False
      | some q => chk (Nat.beq q.size 1) <| match x with
        | .bs b => match h b with
          | some (.ar e' z n l) => match row h y with
            | some (z', l', m) => chk (Nat.beq z 1 && Nat.beq z' 1) (K (.imm (.int .i64 (min m n : Nat))) (upd h b (.ar e' z n (l'.take (min m n) ++ l.drop (min m n)))))
            | none => False
          | _ => False
        | _ => False
/-- a row of parts -/
def buildSliceP (t : TypeId) (len : Nat) (parts : List (Nat × V)) (h : Hp) (n : Nat) (K : V → Hp → Nat → Prop) : Prop :=
  match T t with
  | none => False
  | some r => match r.el with
    | none => False
    | some e => match T e with
      | none => False
      | some q => chk (Nat.blt 0 (len * q.size) && Nat.ble (len * q.size) 4096) <| match fillV (fun i => some (i * q.size, q.size)) ((List.range (len * q.size)).map fun i => .imm (q.zero[i % q.size]?.getD undef)) parts with
        | some l => match allD (l.map fun x => .d (dat h x)) with
          | some ds => fD.fDs ds fun ds => K (.bs n) (upd (frz.frzs h l) n (.ar e q.size len ds)) (n + 1)
          | none => False
        | none => False
/-- a row of no part -/
def emptyP (t : TypeId) (h : Hp) (n : Nat) (K : V → Hp → Nat → Prop) : Prop :=
  match T t with
  | none => False
  | some r => match r.el with
    | none => False
    | some e => match T e with
      | none => False
      | some q => K (.bs n) (upd h n (.ar e q.size 0 [])) (n + 1)
/-- a row of bytes as a text -/
def bytesP (e u : TypeId) (x : V) (h : Hp) (K : V → Prop) : Prop :=
  match T e, T u with
  | some q, some r => match q.kind, r.kind with
    | some (.int .u8), some .string => (match row h x with
      | some (z, l, _) => chk (Nat.beq z 1) (∃ bs : List UInt8, l = bs.map (fun c : UInt8 => D.v (.int .u8 c.toNat)) ∧ K (.imm (.string ⟨bs.toArray⟩)))
      | none => False)
    | _, _ => False
  | _, _ => False
def convA (t u : TypeId) (x : V) (h : Hp) (K : V → Prop) : Prop :=
  match T t with
  | none => False
  | some r => match r.el with
    | none => convP T t u x K
    | some e => bytesP T e u x h K
/-- bounds -/
def bnd (x : Option V) (d : Int) (K : Int → Prop) : Prop :=
  match x with
  | none => K d
  | some (.d (.v (.int _ j))) => K j
  | _ => False
def sliceD (t : TypeId) (x : V) (lo hi mx : Option V) (h : Hp) (n : Nat) (K : V → Hp → Nat → Prop) : Prop :=
  match x with
  | .d (.v (.string s)) => (match T t with
    | none => False
    | some r => match r.kind with
      | some .string => chk mx.isNone <| bnd lo 0 fun i => bnd hi s.size fun j => 0 ≤ i ∧ i ≤ j ∧ j ≤ s.size ∧ K (.imm (.string (s.extract i.toNat j.toNat))) h n
      | _ => False)
  | x => match T t with
    | none => False
    | some r => match r.el with
      | none => False
      | some e => match T e with
        | none => False
        | some q => bnd lo 0 fun i => match x with
          | .d (.sl z l m c) => bnd hi m fun j => 0 ≤ i ∧ i ≤ j ∧ j ≤ m ∧ chk (Nat.beq z q.size) (match mx with
            | none => K (.d (.sl z ((l.drop (i.toNat * z)).take ((j.toNat - i.toNat) * z)) (j.toNat - i.toNat) (c.map (· - i.toNat)))) h n
            | some (.d (.v (.int _ k))) => chk hi.isSome <| j ≤ k ∧ k ≤ m ∧ K (.d (.sl z ((l.drop (i.toNat * z)).take ((j.toNat - i.toNat) * z)) (j.toNat - i.toNat) (some (k.toNat - i.toNat)))) h n
            | _ => False)
          | _ => False
/-- a part of a row: of one's own, from its start on, it stays one's own; else the row is shut -/
def sliceP (t : TypeId) (x : V) (lo hi mx : Option V) (h : Hp) (n : Nat) (K : V → Hp → Nat → Prop) : Prop :=
  match x with
  | .bs b => match h b with
    | some (.ar e z m l) => match lo, mx with
      | none, none => match T t with
        | none => False
        | some r => match r.el with
          | none => False
          | some e' => match T e' with
            | none => False
            | some q => bnd hi m fun j => 0 ≤ j ∧ j ≤ m ∧ chk (Nat.beq z q.size) (K (.bs n) (upd (kil h b) n (.ar e z j.toNat (l.take (j.toNat * z)))) (n + 1))
      | lo, mx => sliceD T t (.d (.sl z l m none)) lo hi mx (fz1 h b) n K
    | some (.fz z m l) => sliceD T t (.d (.sl z l m none)) lo hi mx h n K
    | _ => False
  | x => sliceD T t x lo hi mx h n K
end
section
variable {n₀ : Nat} {w₀ w w' : World} {S₀ S S' : Nat → Prop} {σ σ' : Sg} {h : Hp} {n k : Nat} {fr : List Fr} {P : Program} {T : Tab} {F : Fence} {o : Oper} {s : St} {a : Act} {Q : Exit → Act → World → Prop} {K : St → Prop}
/-- a row as it lies in memory -/
theorem row_ok (H : HR n₀ w₀ S₀ S σ h n fr w) {x : V} {v : Value} {z m : Nat} {l : List D} (hx : Vr w S σ x v) (hr : row h x = some (z, l, m)) :
    (v = .slice none 0 0 ∧ l = [] ∧ m = 0) ∨ ∃ (a : Addr) (k : Nat) (us : List Value), v = .slice (some a) m k ∧ us.length = m * z ∧ Al (Dr w S) l us ∧ (∀ (i : Nat) u, us[i]? = some u → w.cell? (a.add i) = some u) ∧ ∀ u, u ∈ us → u.oneCell' = true := by
  have data : ∀ {z m : Nat} {l : List D} {c : Option Nat} {v : Value}, Dr w S (.sl z l m c) v → (v = .slice none 0 0 ∧ l = [] ∧ m = 0) ∨ ∃ (a : Addr) (k : Nat) (us : List Value), v = .slice (some a) m k ∧ us.length = m * z ∧ Al (Dr w S) l us ∧ (∀ (i : Nat) u, us[i]? = some u → w.cell? (a.add i) = some u) ∧ ∀ u, u ∈ us → u.oneCell' = true := by
    intro z m l c v hd
    cases hd with
    | nil z c h => exact .inl ⟨rfl, rfl, rfl⟩
    | sl g o k us h1 h2 h3 h4 h5 h6 h7 h8 h9 => exact .inr ⟨_, k, us, rfl, by rw [h6, h1], ⟨h6, h9⟩, fun i u hu => by rw [Addr.add_lit]; exact h7 i u hu, h8⟩
    | emp z c a h => exact .inr ⟨a, 0, [], rfl, by simp, .nil, fun i u hu => by simp at hu, fun u hu => by cases hu⟩
  unfold row at hr
  split at hr
  · cases hr
    cases hx with
    | d hx => exact data hx
  · cases hr
    cases hx with
    | d hx => cases hx; exact .inl ⟨rfl, rfl, rfl⟩
  · rename_i b
    cases hx with
    | bs hx h1 =>
      split at hr
      · rename_i e z' n' l' hb
        cases hr
        obtain ⟨v', us, g1, g2, g3, g4⟩ := H.bx b _ hb
        rw [hx] at g1
        cases g1
        rcases g2.2 with ⟨rfl, rfl⟩ | ⟨g, cap, cur, rfl, hg, hh, hn, hc, hs, ht⟩
        · have : l = [] := List.eq_nil_of_length_eq_zero (by rw [← g4.len, g2.1]; simp)
          exact .inl ⟨rfl, this, rfl⟩
        · refine .inr ⟨⟨g, 0, none⟩, cap, us, rfl, g2.1, g4, fun i u hu => ?_, g3⟩
          rw [Addr.add_lit, Nat.zero_add, g2.cellAt i (by rw [← g2.1]; exact (List.getElem?_eq_some_iff.1 hu).1)]
          exact hu
      · rename_i z' n' l' hb
        cases hr
        obtain ⟨v', g1, g2⟩ := H.bx b _ hb
        rw [hx] at g1
        cases g1
        exact data g2
      · cases hr
  · cases hr
theorem grown_refl (w : World) (row : Option Nat) : w.grownBy w row := ⟨rfl, rfl, rfl, Nat.le_refl _, fun _ _ _ => rfl⟩
theorem own_one {w : World} {b e z m : Nat} {v : Value} {us : List Value} (h : w.ownsRow b e z v m us) : v.oneCell' = true := by
  rcases h.2 with ⟨rfl, _⟩ | ⟨g, cap, cur, rfl, _⟩ <;> rfl
/-- cells that are not of type e stay as they are -/
def Kp (e : Option TypeId) (w w' : World) : Prop := ∀ (g : Nat) c t z, w.heap[g]? = some (.cells c t z) → e ≠ some t → w'.heap[g]? = w.heap[g]?
def elT (T : Tab) (t : TypeId) : Option TypeId := (T t).bind (·.el)
theorem Kp.refl (e : Option TypeId) (w : World) : Kp e w w := fun _ _ _ _ _ _ => rfl
theorem Kp.none {w w' : World} (h : w.grownBy w' none) (e : Option TypeId) : Kp e w w' := fun g _ _ _ hg _ => h.block g (Array.getElem?_eq_some_iff.1 hg).1 (by simp)
theorem Kp.own {w w' : World} {n e z m : Nat} {u : Value} {us : List Value} (h : w.grownBy w' u.ownBlock) (ho : w.ownsRow n e z u m us) : Kp (some e) w w' := fun g c t y hg hne => by
  refine h.block g (Array.getElem?_eq_some_iff.1 hg).1 fun e' => ?_
  rcases ho.2 with ⟨rfl, _⟩ | ⟨g', cap, cur, rfl, _, hh, _⟩
  · cases e'
  · cases e'
    rw [hh] at hg
    cases hg
    exact hne rfl
/-- what is appended, and where -/
theorem app_run (hT : TOk P T) (H : HR n₀ w₀ S₀ S σ h n fr w) {t ty : TypeId} {x y : V} {u v : Value} (hx : Vr w S σ x u) (hy : Vr w S σ y v) {K : V → Hp → Nat → Prop} (hp : appP T t x y h n K) :
    ∃ r w' σ' h' n' y, K y h' n' ∧ (Builtin.append_ #[t, t] ty #[u, v]).run P w = .ok r w' ∧ HR n₀ w₀ S₀ S σ' h' n' fr w' ∧ Vr w' S σ' y r ∧ n ≤ n' ∧ Kp (elT T t) w w' := by
  have bsR : (∃ r w' σ' h', K (.bs n) h' (n + 1) ∧ (Builtin.append_ #[t, t] ty #[u, v]).run P w = .ok r w' ∧ HR n₀ w₀ S₀ S σ' h' (n + 1) fr w' ∧ σ' n = some r ∧ r.oneCell' = true ∧ Kp (elT T t) w w') → ∃ r w' σ' h' n' y, K y h' n' ∧ (Builtin.append_ #[t, t] ty #[u, v]).run P w = .ok r w' ∧ HR n₀ w₀ S₀ S σ' h' n' fr w' ∧ Vr w' S σ' y r ∧ n ≤ n' ∧ Kp (elT T t) w w' :=
    fun ⟨r, w', σ', h', a1, a2, a3, a4, a5, a6⟩ => ⟨r, w', σ', h', _, _, a1, a2, a3, .bs a4 a5, by omega, a6⟩
  unfold appP at hp
  split at hp
  · exact hp.elim
  rename_i r hr
  split at hp
  · exact hp.elim
  rename_i e he
  split at hp
  · exact hp.elim
  rename_i q hq
  have heT : elT T t = some e := by simp [elT, hr, he]
  rw [heT]
  rw [heT] at bsR
  replace hp := chk_iff.1 hp
  obtain ⟨hpos, hp⟩ := hp
  have hpos : 0 < q.size := by rw [Nat.blt_eq] at hpos; exact hpos
  split at hp
  · exact hp.elim
  rename_i z l m hrow
  replace hp := chk_iff.1 hp
  obtain ⟨hz, hp⟩ := hp
  have hz : z = q.size ∨ m = 0 := by
    rcases Bool.or_eq_true_iff.1 hz with hz | hz
    · exact .inl (Nat.eq_of_beq_eq_true hz)
    · exact .inr (Nat.eq_of_beq_eq_true hz)
  obtain ⟨i, z0, h1, h2, h3, h4, h5, h6, h7⟩ := hT.info e q hq
  have hu := hT.el t r e hr he
  have hzs : z0.cells.size = q.size := by rw [← Array.length_toList, h5, h6]
  have src := row_ok H hy hrow
  split at hp
  · refine bsR ?_
    obtain ⟨b1, b2, hp⟩ := hp
    cases hx with
    | d hx =>
      cases hx
      rcases src with ⟨rfl, rfl, rfl⟩ | ⟨sa, c, us, rfl, hl, hal, hc, h1'⟩
      · have hr0 := run_append_owned_none (P := P) (w := w) n₀ t ty e i q.size hu h1 (.slice none 0 0) 0 [] (World.ownsRow_nil w n₀ e q.size)
        refine ⟨_, w, _, _, hp, hr0, H.newAr (v := .slice none 0 0) (grown_refl w none) (.inl rfl) (World.ownsRow_nil w n₀ e q.size) (fun u hu => by simp at hu) .nil, by simp [updσ], rfl, .refl _ _⟩
      · have hl' : us.length = m * q.size := by rcases hz with hz | hz <;> subst hz <;> simp [hl]
        obtain ⟨v', w', r1, r2, r3, r4, r5⟩ := run_append_own_at (P := P) w n₀ t ty e i z0 q.size q.bytes hu h1 h4 h2 h3 hzs hpos (.slice none 0 0) 0 [] (World.ownsRow_nil w n₀ e q.size) sa m c us hl' hc h1' (by omega) (by rw [Nat.zero_add]; exact b2) H.size
        rw [Nat.zero_add, List.nil_append] at r2
        exact ⟨v', w', _, _, hp, r1, H.newAr r3 r5 r2 h1' hal, by simp [updσ], own_one r2, .none r3 _⟩
  · rename_i z' l' k' cc
    replace hp := chk_iff.1 hp
    obtain ⟨hzq, hp⟩ := hp
    obtain rfl := Nat.eq_of_beq_eq_true hzq
    cases hx with
    | d hx =>
      by_cases hm : m = 0
      · refine ⟨u, w, σ, h, n, _, hp.1 hm, ?_, H, .d hx, Nat.le_refl _, .refl _ _⟩
        rcases src with ⟨rfl, _, _⟩ | ⟨sa, k2, us, rfl, hl, _⟩
        · cases hx with
          | nil z c h => simp [Builtin.append_, run_underlying hu, sizeOf, typeInfo, h1, Builtin.lenOf, Builtin.firstCells]
          | emp z c a h => simp [Builtin.append_, run_underlying hu, sizeOf, typeInfo, h1, Builtin.lenOf, Builtin.firstCells, storeCells]
          | sl g o k us e1 e2 e3 e4 e5 e6 e7 e8 e9 => simp [Builtin.append_, run_underlying hu, sizeOf, typeInfo, h1, Builtin.lenOf, Builtin.firstCells, e2, storeCells]
        · subst hm
          have hl0 : ∀ (x : Addr), (loadCells x 0).run P w = .ok #[] w := fun x => by simpa using run_loadCells_list (P := P) w x [] (by simp)
          cases hx with
          | nil z c h => simp [Builtin.append_, run_underlying hu, sizeOf, typeInfo, h1, Builtin.lenOf, Builtin.firstCells, hl0, storeCells]
          | emp z c a h => simp [Builtin.append_, run_underlying hu, sizeOf, typeInfo, h1, Builtin.lenOf, Builtin.firstCells, hl0, storeCells]
          | sl g o k us e1 e2 e3 e4 e5 e6 e7 e8 e9 => simp [Builtin.append_, run_underlying hu, sizeOf, typeInfo, h1, Builtin.lenOf, Builtin.firstCells, e2, storeCells, hl0]
      · refine bsR ?_
        obtain ⟨hck, b1, b2, hp⟩ := hp.2 hm
        rcases src with ⟨rfl, rfl, rfl⟩ | ⟨sa, ck, us, rfl, hl, hal, hc, h1'⟩
        · exact absurd rfl hm
        · have hl' : us.length = m * q.size := by rcases hz with hz | hz <;> subst hz <;> simp [hl]
          have hc' := hc
          cases hx with
          | nil z c2 h0 =>
            obtain ⟨v', w', r1, r2, r3, r4, r5⟩ := run_append_own_at (P := P) w n₀ t ty e i z0 q.size q.bytes hu h1 h4 h2 h3 hzs hpos (.slice none 0 0) 0 [] (World.ownsRow_nil w n₀ e q.size) sa m ck us hl' hc' h1' (by omega) b2 H.size
            rw [List.nil_append] at r2
            rw [List.nil_append] at hp
            exact ⟨v', w', _, _, hp, r1, H.newAr r3 r5 r2 h1' hal, by simp [updσ], own_one r2, .none r3 _⟩
          | emp z c2 ea e4 =>
            have hk2 : cc = 0 := e4 _ rfl
            obtain ⟨v', w', r1, r2, r3⟩ := run_append_arg_grows (P := P) w t ty e i z0 q.size q.bytes hu h1 h4 h2 h3 hzs hpos ea 0 0 [] (by simp) (fun j u hj => by simp at hj) sa m ck us hl' hc' (by omega) b1 b2
            have r2' : w'.ownsRow n₀ e q.size v' (0 + m) (([] : List Value) ++ us) := ⟨r2.1, r2.2.imp id fun ⟨g3, cap, cur, f1, f2, f3⟩ => ⟨g3, cap, cur, f1, Nat.le_trans H.size f2, f3⟩⟩
            have hone : ∀ u, u ∈ ([] : List Value) ++ us → u.oneCell' = true := fun u hu => (List.mem_append.1 hu).elim (fun h => by cases h) (h1' u)
            have hal2 : Al (Dr w S) ([] ++ l) (([] : List Value) ++ us) := Al.app .nil hal
            refine ⟨v', w', _, _, hp, r1, H.grow (v := v') (row := none) (fun _ _ h => h) (fun g e => by cases e) (fun g e => by cases e) (fun _ _ _ _ _ _ _ _ e => by cases e) r3 (fun g hg' => .inr ?_) ⟨v', _, by simp [updσ], r2', hone, hal2.mono fun x u hx => hx.mono (fun g hSg => r3.block g (H.sS g hSg) (by simp)) (fun _ h => h)⟩, by simp [updσ], own_one r2, .none r3 _⟩
            rcases r2.2 with ⟨rfl, _⟩ | ⟨g3, cap, cur, rfl, f2, _⟩
            · cases hg'
            · cases hg'; exact f2
          | sl g2 o2 k2 us2 e1 e2 e3 e4 e5 e6 e7 e8 e9 =>
            have hk2 : cc = k2 := e4 _ rfl
            obtain ⟨v', w', r1, r2, r3⟩ := run_append_arg_grows (P := P) w t ty e i z0 q.size q.bytes hu h1 h4 h2 h3 hzs hpos ⟨g2, o2, none⟩ k' k2 us2 (by rw [e6, e1]) (fun j u hj => by rw [Addr.add_lit]; exact e7 j u hj) sa m ck us hl' hc' (by omega) b1 b2
            have r2' : w'.ownsRow n₀ e q.size v' (k' + m) (us2 ++ us) := ⟨r2.1, r2.2.imp id fun ⟨g3, cap, cur, f1, f2, f3⟩ => ⟨g3, cap, cur, f1, Nat.le_trans H.size f2, f3⟩⟩
            have hone : ∀ u, u ∈ us2 ++ us → u.oneCell' = true := fun u hu => (List.mem_append.1 hu).elim (e8 u) (h1' u)
            have hal2 : Al (Dr w S) (l' ++ l) (us2 ++ us) := Al.app ⟨e6, e9⟩ hal
            refine ⟨v', w', _, _, hp, r1, H.grow (v := v') (row := none) (fun _ _ h => h) (fun g e => by cases e) (fun g e => by cases e) (fun _ _ _ _ _ _ _ _ e => by cases e) r3 (fun g hg' => .inr ?_) ⟨v', _, by simp [updσ], r2', hone, hal2.mono fun x u hx => hx.mono (fun g hSg => r3.block g (H.sS g hSg) (by simp)) (fun _ h => h)⟩, by simp [updσ], own_one r2, .none r3 _⟩
            rcases r2.2 with ⟨rfl, _⟩ | ⟨g3, cap, cur, rfl, f2, _⟩
            · cases hg'
            · cases hg'; exact f2
  · rename_i b
    refine bsR ?_
    cases hx with
    | bs hx hone =>
      split at hp
      · rename_i e' z' k' l' hb
        replace hp := chk_iff.1 hp
        obtain ⟨hez, b1, b2, hp⟩ := hp
        rw [Bool.and_eq_true] at hez
        obtain ⟨he1, he2⟩ := hez
        obtain rfl := Nat.eq_of_beq_eq_true he1
        obtain rfl := Nat.eq_of_beq_eq_true he2
        obtain ⟨v0, us0, g1, g2, g3, g4⟩ := H.bx b _ hb
        rw [hx] at g1
        cases g1
        rcases src with ⟨rfl, rfl, rfl⟩ | ⟨sa, c, us, rfl, hl, hal, hc, h1'⟩
        · have hr0 := run_append_owned_none (P := P) (w := w) n₀ t ty e' i q.size hu h1 u k' us0 g2
          rw [Nat.add_zero, List.append_nil] at hp
          exact ⟨_, w, _, _, hp, hr0, H.appAr hb hx (grown_refl w _) (.inl rfl) g2 g2 g3 g4, by simp [updσ], hone, .refl _ _⟩
        · have hl' : us.length = m * q.size := by rcases hz with hz | hz <;> subst hz <;> simp [hl]
          obtain ⟨v', w', r1, r2, r3, r4, r5⟩ := run_append_own_at (P := P) w n₀ t ty e' i z0 q.size q.bytes hu h1 h4 h2 h3 hzs hpos u k' us0 g2 sa m c us hl' hc h1' b1 b2 H.size
          exact ⟨v', w', _, _, hp, r1, H.appAr hb hx r3 r5 g2 r2 (fun u hu => (List.mem_append.1 hu).elim (g3 u) (h1' u)) (g4.app hal), by simp [updσ], own_one r2, .own r3 g2⟩
      · exact hp.elim
  · exact hp.elim
theorem len_ok (hT : TOk P T) {t ty : TypeId} (H : HR n₀ w₀ S₀ S σ h n fr w) {x : V} {v : Value} (hx : Vr w S σ x v) {K : V → Prop} (hp : lenP T t h x K) :
    ∃ m : Nat, K (.imm (.int .i64 m)) ∧ ∀ W, (Builtin.len_ #[t] ty #[v]).run P W = .ok (.int .i64 m) W := by
  unfold lenP at hp
  split at hp
  · exact hp.elim
  rename_i r hr
  split at hp
  · rename_i b
    cases hx with
    | d hx =>
      cases hx
      split at hp
      · rename_i hk
        exact ⟨_, hp, fun W => by simp [Builtin.len_, run_underlying (hT.ks t r _ hr hk), goInt]⟩
      · exact hp.elim
  · split at hp
    · exact hp.elim
    rename_i e he
    split at hp
    · rename_i z l m hrow
      refine ⟨m, hp, fun W => ?_⟩
      rcases row_ok H hx hrow with ⟨rfl, rfl, rfl⟩ | ⟨sa, c, us, rfl, _⟩ <;> simp [Builtin.len_, run_underlying (hT.el t r e hr he), goInt]
    · exact hp.elim
theorem indexAddr_ok (hT : TOk P T) (H : SR n₀ w₀ S₀ S σ s fr a w) {t : TypeId} {x y : Operand} (ho : o.op = .indexAddr t x y) (hp : indexAddrP T t (s.ev x) (s.ev y) s.h (fun v => K (s.put o.dst v))) : Qt P S σ o s a w K := by
  have hx := H.ev x
  have hy := H.ev y
  have hd : ∀ c, o.op ≠ .defer c := fun c hc => by rw [ho] at hc; cases hc
  unfold indexAddrP at hp
  split at hp
  · exact hp.elim
  rename_i r hr
  split at hp
  · exact hp.elim
  rename_i e he
  split at hp
  · exact hp.elim
  rename_i q hq
  split at hp
  · rename_i kk j hj
    rw [hj] at hy
    generalize hu : a.eval y = u at hy
    cases hy with
    | d hy =>
      cases hy
      obtain ⟨h0, hp⟩ := hp
      have run : ∀ {g p m c : Nat}, a.eval x = .slice (some ⟨g, p, none⟩) m c → j < m → ∀ W, (execOp a.eval o).run P W = .ok (.value (.pointer (some ⟨g, p + j.toNat * q.size, none⟩))) W := by
        intro g p m c he' hlt W
        simp [execOp, ho, Instr.indexAt, hu, he', asIntOf, run_underlying (hT.el t r e hr he), h0, hlt, run_size' hT hq, Addr.add_lit]
      have data : ∀ {z m : Nat} {l : List D} {c : Option Nat}, Dr w S (.sl z l m c) (a.eval x) → j < m → K (s.put o.dst (.ep l (j.toNat * q.size))) → Qt P S σ o s a w K := by
        intro z m l c hx hlt hk
        generalize hv : a.eval x = v at hx
        cases hx with
        | nil z c h => omega
        | emp z c a h => omega
        | sl g o' k' us h1 h2 h3 h4 h5 h6 h7 h8 h9 =>
          exact quiet_ok (run hv hlt) (.ep g o' us h5 h6 h7 h8 h9) hk
      split at hp
      · rename_i z l m c hxs
        rw [hxs] at hx
        generalize hv : a.eval x = v at hx
        cases hx with
        | d hx => exact data (by rw [hv]; exact hx) hp.1 (chk_iff.1 hp.2).2
      · rename_i b hxs
        rw [hxs] at hx
        generalize hv : a.eval x = v at hx
        cases hx with
        | bs hx hone =>
          split at hp
          · rename_i e' z m l hb
            obtain ⟨v', us, g1, g2, g3, g4⟩ := H.h.bx b _ hb
            rw [hx] at g1
            cases g1
            obtain ⟨hlt, hp⟩ := hp
            replace hp := (chk_iff.1 hp).2
            rcases g2.2 with ⟨rfl, hm⟩ | ⟨g, cap, cur, rfl, hg, hh, hn, hc, hs, ht⟩
            · omega
            · have := run (p := 0) hv hlt
              rw [Nat.zero_add] at this
              exact quiet_ok this (.pt _ hx rfl) hp
          · rename_i z m l hb
            obtain ⟨v', g1, g2⟩ := H.h.bx b _ hb
            rw [hx] at g1
            cases g1
            exact data (by rw [hv]; exact g2) hp.1 (chk_iff.1 hp.2).2
          · exact hp.elim
      · exact hp.elim
  · exact hp.elim
theorem strIx_ok (hT : TOk P T) (H : SR n₀ w₀ S₀ S σ s fr a w) {t : TypeId} {x y : Operand} (ho : o.op = .index t x y) (hp : match T t with | some r => (match r.kind with | some .string => strIx (s.ev x) (s.ev y) (fun v => K (s.put o.dst v)) | _ => False) | none => False) : Qt P S σ o s a w K := by
  have hx := H.ev x
  have hy := H.ev y
  have hd : ∀ c, o.op ≠ .defer c := fun c hc => by rw [ho] at hc; cases hc
  split at hp
  · rename_i r hr
    split at hp
    case h_2 => exact hp.elim
    rename_i h1
    unfold strIx at hp
    split at hp
    · rename_i b kk j hb hj
      rw [hb] at hx
      rw [hj] at hy
      generalize hv : a.eval x = v at hx
      generalize hu : a.eval y = u at hy
      cases hx with
      | d hx =>
        cases hx
        cases hy with
        | d hy =>
          cases hy
          obtain ⟨h0, hlt, c, hc, hp⟩ := hp
          exact quiet_ok (v := .int .u8 c.toNat) (fun W => by simp [execOp, ho, Instr.index, hu, hv, asIntOf, run_underlying (hT.ks t r _ hr h1), h0, hc]) (.d (.v _)) hp
    · exact hp.elim
  · exact hp.elim
theorem arr_und (hT : TOk P T) {t : TypeId} {p : Nat × Nat} (h : arrOf T t = some p) : P.underlying t = some (.array p.1 p.2) := by
  unfold arrOf at h
  cases e : T t with
  | none => rw [e] at h; cases h
  | some r => rw [e] at h; exact hT.arr t r p.1 p.2 e h
theorem buildA_ok (hT : TOk P T) (H : SR n₀ w₀ S₀ S σ s fr a w) {t : TypeId} {parts : Array (Nat × Operand)} {p : Nat × Nat} (ho : o.op = .build t parts) (ha : arrOf T t = some p) (hp : buildAP T t p (parts.toList.map fun (i, x) => (i, s.ev x)) (fun v => K (s.put o.dst v))) : Qt P S σ o s a w K := by
  have hd : ∀ c, o.op ≠ .defer c := fun c hc => by rw [ho] at hc; cases hc
  have hu := arr_und hT ha
  unfold buildAP at hp
  split at hp
  · rename_i r q hr hq
    split at hp
    · rename_i l hl
      obtain ⟨i, z, h1, h2, h3, h4, h5, h6, h7⟩ := hT.info t r hr
      obtain ⟨ie, z', g1, g2, _⟩ := hT.info p.2 q hq
      have hal : Al (Vr w S σ) (r.zero.map .imm) z.cells.toList := by
        rw [h5]
        refine ⟨by simp, fun j x u hx hu => ?_⟩
        rw [List.getElem?_map, hu] at hx
        cases hx
        exact .d (.v u)
      obtain ⟨vs', f1, f2, f3⟩ := fill_ok _ (parts.toList.map fun (i, x) => (i, a.eval x)) _ z.cells l (by simp) (fun j p q hp hq => by
        rw [List.getElem?_map] at hp hq
        cases e : parts.toList[j]? with
        | none => rw [e] at hp; cases hp
        | some y => rw [e] at hp hq; cases hp; cases hq; exact ⟨rfl, H.ev _⟩) hal (by rw [h5]; exact h7) hl
      refine quiet_ok (v := .agg vs') (fun W => ?_) ?_ hp
      · have hb := run_build (P := P) W t (parts.map fun (i, x) => (i, a.eval x)) vs' (by
          unfold Program.built
          simp only [h1, hu, h4, g1, Array.toList_map, g2]
          simpa using f1)
        simp [execOp, ho, hb]
      · have := Vr.agg (w := w) (S := S) (σ := σ) vs'.toList f2.len f3 f2.at_
        simpa using this
    · exact hp.elim
  · exact hp.elim
theorem arrA_ok (hT : TOk P T) (H : SR n₀ w₀ S₀ S σ s fr a w) {t : TypeId} {x y : Operand} {p : Nat × Nat} (ho : o.op = .indexAddr t x y) (ha : arrOf T t = some p) (hp : arrAP T p (s.ev x) (s.ev y) (fun v => K (s.put o.dst v))) : Qt P S σ o s a w K := by
  have hx := H.ev x
  have hy := H.ev y
  have hu := arr_und hT ha
  unfold arrAP at hp
  split at hp
  · exact hp.elim
  rename_i q hq
  split at hp
  · rename_i b off kk j hb hj
    rw [hb] at hx
    rw [hj] at hy
    generalize hv : a.eval x = v at hx
    generalize hw : a.eval y = u at hy
    cases hy with
    | d hy =>
      cases hy
      obtain ⟨h0, hlt, hp⟩ := hp
      cases hx with
      | pt u0 hu0 hg =>
        exact quiet_ok (fun W => by simp [execOp, ho, Instr.indexAt, hw, hv, asIntOf, run_underlying hu, Instr.sureAddr, h0, hlt, run_size' hT hq, Addr.add_lit]) (.pt u0 hu0 hg) hp
  · exact hp.elim
theorem arrI_ok (hT : TOk P T) (H : SR n₀ w₀ S₀ S σ s fr a w) {t : TypeId} {x y : Operand} {p : Nat × Nat} (ho : o.op = .index t x y) (ha : arrOf T t = some p) (hp : arrIx T p (s.ev x) (s.ev y) (fun v => K (s.put o.dst v))) : Qt P S σ o s a w K := by
  have hx := H.ev x
  have hy := H.ev y
  have hu := arr_und hT ha
  unfold arrIx at hp
  split at hp
  · exact hp.elim
  rename_i q hq
  replace hp := chk_iff.1 hp
  obtain ⟨hz, hp⟩ := hp
  rw [Bool.and_eq_true] at hz
  have hz1 := Nat.eq_of_beq_eq_true hz.1
  have hz2 : q.agg = false := by simpa using hz.2
  have core : ∀ {us : List Value} {l : List V} {kk : IntKind} {j : Int}, a.eval x = .agg us.toArray → a.eval y = .int kk j → Al (Vr w S σ) l us → 0 ≤ j → j < (p.1 : Int) → (∃ y, l[j.toNat]? = some y ∧ K (s.put o.dst y)) → Qt P S σ o s a w K := by
    intro us l kk j hv hw hal h0 hlt ⟨z, hz, hk⟩
    obtain ⟨u, hu', hd⟩ := hal.get hz
    refine quiet_ok (v := u) (fun W => ?_) hd hk
    have h2 : (us.toArray)[j.toNat * 1]? = some u := by rw [Nat.mul_one]; simpa using hu'
    have h3 := run_isAgg' (w := W) hT hq
    rw [hz2] at h3
    have h4 := run_size' (w := W) hT hq
    rw [hz1] at h4
    simp only [execOp, ho, hv, hw]
    simp [Instr.index, asIntOf, run_underlying hu, h0, hlt, h4, part, h3, hu']
  split at hp
  · rename_i l kk j hb hj
    rw [hb] at hx
    rw [hj] at hy
    generalize hv : a.eval x = v at hx
    generalize hw : a.eval y = u at hy
    cases hy with
    | d hy =>
      cases hy
      cases hx with
      | agg us g1 g2 g3 => exact core hv hw ⟨g1, g3⟩ hp.1 hp.2.1 hp.2.2
  · rename_i l kk j hb hj
    rw [hb] at hx
    rw [hj] at hy
    generalize hv : a.eval x = v at hx
    generalize hw : a.eval y = u at hy
    cases hy with
    | d hy =>
      cases hy
      cases hx with
      | d hx =>
        cases hx with
        | agg us g1 g2 g3 =>
          obtain ⟨h0, h1, y, h2, h3⟩ := hp
          exact core hv hw (Al.map_d ⟨g1, g3⟩) h0 h1 ⟨.d y, by rw [List.getElem?_map, h2]; rfl, h3⟩
  · exact hp.elim
theorem makeFunc_ok (H : SR n₀ w₀ S₀ S σ s fr a w) {p : FuncId} {c : Array Operand} (ho : o.op = .makeFunc (.func p) #[] c) (hp : K (s.put o.dst (.fn p (c.toList.map s.ev)))) : Qt P S σ o s a w K := by
  have hd : ∀ c, o.op ≠ .defer c := fun c hc => by rw [ho] at hc; cases hc
  refine quiet_ok (v := .func (.func p) #[] (c.toList.map a.eval).toArray) (fun W => by simp [execOp, ho, Instr.makeFunc]; apply Array.ext'; simp) (.fn _ (by simp) fun i x u hx hu => ?_) hp
  rw [List.getElem?_map] at hx hu
  cases e : c.toList[i]? with
  | none => rw [e] at hx; cases hx
  | some y => rw [e] at hx hu; cases hx; cases hu; exact H.ev y
theorem convA_q1 (hT : TOk P T) (H : SR n₀ w₀ S₀ S σ s fr a w) {t u : TypeId} {x : Operand} (ho : o.op = .convert t u x) (hp : convA T t u (s.ev x) s.h (fun v => K (s.put o.dst v))) : Q1 P S σ o s a w K := by
  have hd : ∀ c, o.op ≠ .defer c := fun c hc => by rw [ho] at hc; cases hc
  unfold convA at hp
  split at hp
  · exact hp.elim
  rename_i r hr
  split at hp
  · exact (conv_ok hT H ho hp).q1
  rename_i e he
  have h1 := hT.el t r e hr he
  unfold bytesP at hp
  split at hp
  case h_2 => exact hp.elim
  rename_i q r' hq hr'
  split at hp
  case h_2 => exact hp.elim
  rename_i k1 k2
  have h2 := hT.ks e q _ hq k1
  have h3 := hT.ks u r' _ hr' k2
  split at hp
  case h_2 => exact hp.elim
  rename_i z l m hrow
  replace hp := chk_iff.1 hp
  obtain ⟨hz, bs, hl, hp⟩ := hp
  have hz1 := Nat.eq_of_beq_eq_true hz
  subst hz1
  have fin : ∀ {b : ByteArray}, (convert t u (a.eval x)).run P w = .ok (.string b) w → K (s.put o.dst (.imm (.string b))) → Q1 P S σ o s a w K := fun h1 h3 =>
    ⟨_, _, by simp [execOp, ho, h1], .d (.v _), h3⟩
  rcases row_ok H.h (H.ev x) hrow with ⟨hv, rfl, rfl⟩ | ⟨sa, cap, us, hv, hlen, hal, hcell, hone⟩
  · have : bs = [] := by simpa using hl.symm
    subst this
    exact fin (by rw [hv]; exact run_convert_bytes_nil w t e h1 h2 _ _ u h3) hp
  · have hus : us = bs.map (fun c : UInt8 => Value.int .u8 c.toNat) := by
      apply List.ext_getElem?
      intro j
      rw [List.getElem?_map]
      cases hb : bs[j]? with
      | none =>
        have := hal.len
        rw [hl, List.length_map] at this
        rw [List.getElem?_eq_none_iff] at hb
        rw [List.getElem?_eq_none (by omega)]
        rfl
      | some c =>
        obtain ⟨v, hv1, hv2⟩ := hal.get (i := j) (x := .v (.int .u8 c.toNat)) (by rw [hl, List.getElem?_map, hb]; rfl)
        rw [hv1]
        cases hv2
        rfl
    have hbl : bs.length = m := by rw [hus, List.length_map] at hlen; omega
    have hr : (convert t u (a.eval x)).run P w = .ok (.string (strOfNums (bs.map fun c : UInt8 => (c.toNat : Int)))) w := by
      rw [hv]
      by_cases hm0 : m = 0
      · subst hm0
        have hb0 : bs = [] := List.eq_nil_of_length_eq_zero hbl
        subst hb0
        rw [run_convert_bytes_string w t u e _ 0 cap h1 h2 h3, run_bytesToString w sa 0 cap [] (by simpa using run_loadCells_list (P := P) w sa [] (by simp))]
        rfl
      · have c0 := hcell 0 us[0] (List.getElem?_eq_getElem (by omega))
        have hsp : sa.spot = none := by
          unfold World.cell? at c0
          rw [show sa.add 0 = sa from rfl] at c0
          cases hs : sa.spot with
          | none => rfl
          | some s => rw [hs] at c0; split at c0 <;> simp at c0
        obtain ⟨g, p, sp⟩ := sa
        have hsp : sp = none := hsp
        subst hsp
        exact run_convert_bytes_arg w t e h1 h2 g p m cap (bs.map fun c : UInt8 => (c.toNat : Int)) (by simp [hbl]) (fun i hi => by
          have := hcell i (.int .u8 ((bs.map fun c : UInt8 => (c.toNat : Int)).getD i 0))
          rw [Addr.add_lit] at this
          rw [this]
          rw [hus, List.getElem?_map, List.getD_eq_getElem?_getD, List.getElem?_map]
          rw [List.getElem?_eq_getElem (show i < bs.length by omega)]
          rfl) u h3
    have hs : strOfNums (bs.map fun c : UInt8 => (c.toNat : Int)) = ⟨bs.toArray⟩ := by
      unfold strOfNums
      rw [List.map_map]
      congr 2
      refine (List.map_congr_left (g := fun c => c) fun c _ => ?_).trans (List.map_id' bs)
      simp
    rw [hs] at hr
    exact fin hr hp
theorem make_ok (hT : TOk P T) (hF : Free F) (H : SR n₀ w₀ S₀ S σ s fr a w) {t : TypeId} {x y : Operand} (ho : o.op = .makeSlice t x y) (hp : makeP T t (s.ev x) (s.ev y) s.h s.n (fun v h n => K (({ s with h, n } : St).put o.dst v))) : o.wpIn F k P a w (Gd n₀ w₀ S₀ fr K) Q := by
  have hx := H.ev x
  have hy := H.ev y
  have hd : ∀ c, o.op ≠ .defer c := fun c hc => by rw [ho] at hc; cases hc
  unfold makeP at hp
  split at hp
  · exact hp.elim
  rename_i r hr
  split at hp
  · exact hp.elim
  rename_i e he
  split at hp
  · exact hp.elim
  rename_i q hq
  split at hp
  · rename_i k1 j k2 j' hxj hyj
    rw [hxj] at hx
    rw [hyj] at hy
    generalize hv : a.eval x = v at hx
    generalize hu : a.eval y = u at hy
    cases hx with
    | d hx =>
      cases hx
      cases hy with
      | d hy =>
        cases hy
        obtain ⟨rfl, h0, h1, h2, hp⟩ := hp
        replace hp := chk_iff.1 hp
        obtain ⟨h3, hp⟩ := hp
        have h3 := Nat.eq_of_beq_eq_true h3
        split at hp
        case h_2 => exact hp.elim
        rename_i z h4
        obtain ⟨m, rfl⟩ := Int.eq_ofNat_of_zero_le h0
        obtain ⟨i, z0, g1, g2, g3, g4, g5, g6, g7⟩ := hT.info e q hq
        simp only [Int.toNat_natCast] at h1 h2 hp
        obtain ⟨w', r1, r2, r3⟩ := run_make_full (P := P) w n₀ t e i z0 1 (hT.el t r e hr he) g1 g4 (by rw [g2, h3]) k1 k2 m (by rw [g3]; exact h2) h1 H.h.size
        rw [h4] at g5
        have hz0 : z0.cells = #[z] := by
          apply Array.ext'
          simpa using g5
        have hone : z.oneCell' = true := g7 z (by rw [h4]; simp)
        rw [hz0, Nat.mul_one, toList_madeCells_one] at r2
        refine val_ok hF hd (w' := w') (v := .slice (some ⟨w.heap.size, 0, none⟩) m m) ?_ (H.h.newAr r3 (.inr rfl) r2 (fun u hu => by rw [(List.mem_replicate.1 hu).2]; exact hone) ?_) H.N (by have := H.lon; omega) H.lo H.d (.bs (by simp [updσ]) rfl) hp
        · have r1' := r1
          simp [execOp, ho, hv, hu, r1']
        · refine ⟨by simp, fun i x u hx hu => ?_⟩
          rw [List.getElem?_replicate] at hx hu
          split at hx
          · rename_i hi
            rw [if_pos hi] at hu
            cases hx
            cases hu
            exact .v z
          · cases hx
  · exact hp.elim
theorem range_map_zero (z : Array Value) (n : Nat) (zl : List Value) (h : z.toList = zl) (hn : 0 < z.size) : ((Array.range n).map (fun i => z[i % z.size]!)).toList = (List.range n).map fun i => (zl[i % zl.length]?.getD undef) := by
  subst h
  simp only [Array.toList_map, Array.toList_range]
  apply List.map_congr_left
  intro i _
  have hi : i % z.size < z.size := Nat.mod_lt _ hn
  rw [Array.length_toList, Array.getElem?_toList, Array.getElem?_eq_getElem hi, getElem!_pos z _ hi]
  rfl
theorem dat_al {l : List V} {ds : List D} (hd : allD (l.map fun x => .d (dat h x)) = some ds) : ds = dat.dats h l := by
  induction l generalizing ds with
  | nil => cases hd; rfl
  | cons x l ih =>
    simp only [List.map_cons, allD] at hd
    split at hd
    · rename_i q hq
      cases hd
      rw [ih hq]
      rfl
    · cases hd
/-- an operation that makes a new block, and leaves the others as they are (but for rows of elements of type e) -/
def GrowR (P : Program) (n₀ : Nat) (w₀ : World) (S₀ : Nat → Prop) (o : Oper) (s : St) (fr : List Fr) (a : Act) (w : World) (K : St → Prop) (e : Option TypeId) : Prop :=
  ∃ v w' h' n' S' σ' x, (execOp a.eval o).run P w = .ok (.value v) w' ∧ HR n₀ w₀ S₀ S' σ' h' n' (⟨s.t, a.tmps, none, dsOf a.defers⟩ :: fr) w' ∧ s.lo ≤ n' ∧ Vr w' S' σ' x v ∧ K (({ s with h := h', n := n' } : St).put o.dst x) ∧ Kp e w w'
theorem GrowR.ok (hF : Free F) (hd : ∀ c, o.op ≠ .defer c) (H : SR n₀ w₀ S₀ S σ s fr a w) {e : Option TypeId} (hg : GrowR P n₀ w₀ S₀ o s fr a w K e) : o.wpIn F k P a w (fun a' w' => Kp e w w' ∧ Gd n₀ w₀ S₀ fr K a' w') Q := by
  obtain ⟨v, w', h', n', S', σ', x, h1, h2, h3, h4, h5, h6⟩ := hg
  refine wp_of_run hF hd ?_
  rw [h1]
  refine ⟨h6, _, S', σ', h5, ?_, by rw [put_lo]; exact H.lo, by rw [put_lo, (put_hn _ _ _).2]; exact h3, by rw [put_size, put_N]; exact H.N, by rw [put_def]; exact H.d⟩
  rw [(put_hn _ _ _).1, (put_hn _ _ _).2]
  exact put_fr h2 H.N h4 o.dst h' n'
theorem alloc_gr (hT : TOk P T) (H : SR n₀ w₀ S₀ S σ s fr a w) {e : TypeId} (ho : o.op = .alloc e) (hp : allocP T e s o.dst K) : GrowR P n₀ w₀ S₀ o s fr a w K none := by
  unfold allocP at hp
  split at hp
  · rename_i r hr
    obtain ⟨i, z, h1, h2, h3, h4, h5, h6, h7⟩ := hT.info e r hr
    have hal : Al (Vr w S σ) (r.zero.map .imm) z.cells.toList := by
      rw [h5]
      refine ⟨by simp, fun j x u hx hu => ?_⟩
      rw [List.getElem?_map, hu] at hx
      cases hx
      exact .d (.v u)
    exact ⟨_, _, _, _, _, _, _, by simp [execOp, ho, Instr.alloc, zeroValue, typeInfo, h1, h4, newVar, newRow], H.h.newSt (t := e) (by rw [h5]; exact h7) hal, by have := H.lon; omega, .pt (.pointer (some ⟨w.heap.size, 0, none⟩)) (by simp [updσ]) rfl, hp, .none (World.grownBy_alloc w _ none) _⟩
  · exact hp.elim
theorem empty_gr (hT : TOk P T) (H : SR n₀ w₀ S₀ S σ s fr a w) {t : TypeId} {parts : Array (Nat × Operand)} (ho : o.op = .buildSlice t 0 parts) (he : parts.toList = [])
    (hp : emptyP T t s.h s.n (fun v h n => K (({ s with h, n } : St).put o.dst v))) : GrowR P n₀ w₀ S₀ o s fr a w K none := by
  have hpe : parts = #[] := by apply Array.ext'; simpa using he
  subst hpe
  unfold emptyP at hp
  split at hp
  · exact hp.elim
  rename_i r hr
  split at hp
  · exact hp.elim
  rename_i e he
  split at hp
  · exact hp.elim
  rename_i q hq
  obtain ⟨i, z, h1, h2, _⟩ := hT.info e q hq
  refine ⟨.slice (some ⟨w.heap.size, 0, none⟩) 0 0, w.alloc (.cells #[] e), _, _, _, _, _, ?_, H.h.newAr (us := []) (World.grownBy_alloc w _ none) (.inr rfl) (World.ownsRow_lit w #[] 0 H.h.size (by simp [maxLen]) (by simp)) (fun u hu => by simp at hu) .nil, by have := H.lon; omega, .bs (by simp [updσ]) rfl, hp, .none (World.grownBy_alloc w _ none) _⟩
  have hz0 : Array.map (fun _ => (default : Value)) (Array.range 0) = #[] := by simp
  simp [execOp, ho, Instr.buildSlice, run_underlying (hT.el t r e hr he), sizeOf, typeInfo, h1, Instr.fill, newRow]
  first | done | rw [hz0] | simp
theorem buildSlice_gr (hT : TOk P T) (H : SR n₀ w₀ S₀ S σ s fr a w) {t : TypeId} {len : Nat} {parts : Array (Nat × Operand)} (ho : o.op = .buildSlice t len parts)
    (hp : buildSliceP T t len (parts.toList.map fun (i, x) => (i, s.ev x)) s.h s.n (fun v h n => K (({ s with h, n } : St).put o.dst v))) : GrowR P n₀ w₀ S₀ o s fr a w K none := by
  unfold buildSliceP at hp
  split at hp
  · exact hp.elim
  rename_i r hr
  split at hp
  · exact hp.elim
  rename_i e he
  split at hp
  · exact hp.elim
  rename_i q hq
  replace hp := chk_iff.1 hp
  obtain ⟨hps, hp⟩ := hp
  rw [Bool.and_eq_true] at hps
  obtain ⟨hpos, hsm⟩ := hps
  have hpos : 0 < len * q.size := by rw [Nat.blt_eq] at hpos; exact hpos
  have hsm := Nat.le_of_ble_eq_true hsm
  split at hp
  · rename_i l hl
    split at hp
    · rename_i ds hds
      obtain ⟨i, z, h1, h2, h3, h4, h5, h6, h7⟩ := hT.info e q hq
      have hzp : 0 < q.size := Nat.pos_of_mul_pos_left hpos
      have hzz : z.cells.size = q.size := by rw [← Array.length_toList, h5, h6]
      have hr0 := range_map_zero z.cells (len * q.size) q.zero h5 (by omega)
      have hal : Al (Vr w S σ) ((List.range (len * q.size)).map fun i => .imm (q.zero[i % q.size]?.getD undef)) ((Array.range (len * q.size)).map (z.cells[· % z.cells.size]!)).toList := by
        rw [hr0, h6]
        refine ⟨by simp, fun j x u hx hu => ?_⟩
        rw [List.getElem?_map] at hx hu
        cases e1 : (List.range (len * q.size))[j]? with
        | none => rw [e1] at hx; cases hx
        | some y => rw [e1] at hx hu; cases hx; cases hu; exact .d (.v _)
      have hone : ∀ u, u ∈ ((Array.range (len * q.size)).map (z.cells[· % z.cells.size]!)).toList → u.oneCell' = true := by
        rw [hr0]
        intro u hu
        obtain ⟨i, _, rfl⟩ := List.mem_map.1 hu
        have hi : i % q.zero.length < q.zero.length := Nat.mod_lt _ (by omega)
        rw [List.getElem?_eq_getElem hi]
        exact h7 _ (List.getElem_mem hi)
      obtain ⟨vs', f1, f2, f3⟩ := fill_ok _ (parts.toList.map fun (i, x) => (i, a.eval x)) _ _ l (by simp) (fun j p q hp hq => by
        rw [List.getElem?_map] at hp hq
        cases e : parts.toList[j]? with
        | none => rw [e] at hp; cases hp
        | some y => rw [e] at hp hq; cases hp; cases hq; exact ⟨rfl, H.ev _⟩) hal hone hl
      have hrun := run_buildSlice (P := P) w t e len (parts.map fun (i, x) => (i, a.eval x)) vs' i z (hT.el t r e hr he) h1 h4 (by rw [h2]; omega) (by rw [h2]; omega) (by rw [h2]; simpa using f1)
      obtain ⟨g1, S', g2, g3, g4⟩ := frzs_ok l vs'.toList s.h S H.h f2.len f2.at_
      rw [fDs_iff] at hp
      have hds' := dat_al hds
      subst hds'
      have hsz : vs'.size = len * q.size := by
        have := f2.len
        rw [Array.length_toList] at this
        rw [this]
        have fl : ∀ (place : Nat → Option (Nat × Nat)) (ps : List (Nat × V)) (cs l : List V), fillV place cs ps = some l → l.length = cs.length := by
          intro place ps
          induction ps with
          | nil => intro cs l h; cases h; rfl
          | cons p ps ih =>
            obtain ⟨i, x⟩ := p
            intro cs l h
            unfold fillV at h
            split at h
            · cases h
            · rename_i off size hpl
              split at h
              · cases h
              · rename_i c hc
                cases hb : (Nat.beq c.length size && Nat.ble (off + c.length) cs.length) with
                | false => rw [hb] at h; cases h
                | true =>
                  rw [hb] at h
                  rw [Bool.and_eq_true] at hb
                  have b2 := Nat.le_of_ble_eq_true hb.2
                  rw [ih _ _ h]
                  simp only [putCells, List.length_append, List.length_take, List.length_drop]
                  omega
        rw [fl _ _ _ _ hl]
        simp
      refine ⟨.slice (some ⟨w.heap.size, 0, none⟩) len len, _, _, _, _, _, _, by simp [execOp, ho, hrun], g2.newAr (World.grownBy_alloc w _ none) (.inr rfl) (World.ownsRow_lit w vs' len g2.size (by simp only [maxLen]; have := Nat.le_mul_of_pos_right len hzp; omega) hsz) f3 ?_, by have := H.lon; omega, .bs (by simp [updσ]) rfl, hp, .none (World.grownBy_alloc w _ none) _⟩
      exact ⟨by rw [f2.len, dats_len], g4⟩
    · exact hp.elim
  · exact hp.elim
theorem bnd_ok (H : SR n₀ w₀ S₀ S σ s fr a w) {x : Option Operand} {d : Int} {K' : Int → Prop} (hp : bnd (x.map s.ev) d K') : (x = none ∧ K' d) ∨ ∃ y k j, x = some y ∧ a.eval y = .int k j ∧ K' j := by
  cases x with
  | none => exact .inl ⟨rfl, hp⟩
  | some y =>
    have hy := H.ev y
    simp only [Option.map_some, bnd] at hp
    split at hp
    · rename_i j he
      cases he
    · rename_i k j he
      simp only [Option.some.injEq] at he
      rw [he] at hy
      generalize hv : a.eval y = v at hy
      cases hy with
      | d hy => cases hy; exact .inr ⟨y, _, _, rfl, hv, hp⟩
    · exact hp.elim
theorem run_slice_gen {t e : TypeId} {q : Ti} (hT : TOk P T) (hu : P.underlying t = some (.slice e)) (hq : T e = some q) {A : Option Addr} {m cap : Nat} {lo hi mx : Option Value} {i j c : Nat} (hlo : (lo = none ∧ i = 0) ∨ ∃ k, lo = some (.int k i))
    (hhi : (hi = none ∧ j = m) ∨ ∃ k, hi = some (.int k j)) (hmx : (mx = none ∧ c = cap) ∨ ((∃ k, mx = some (.int k c)) ∧ hi.isSome = true)) (h1 : i ≤ j) (h2 : j ≤ c) (h3 : c ≤ cap) (W : World) :
    (Instr.sliceAt t (.slice A m cap) lo hi mx).run P W = .ok (.slice (if c = i then A else A.map (·.add (i * q.size))) (j - i) (c - i)) W := by
  have b1 : ∀ {k : IntKind} {x y : Nat} (code : BoundsCode), x ≤ y → ∀ W, (Instr.sliceBound (.int k (x : Int)) y code).run P W = .ok x W := fun {k x y} code hxy W => by
    rw [run_sliceBound W k (x : Int) y code (by omega) (by omega)]
    simp
  have hz := run_size' (T := T) hT hq
  rcases hlo with ⟨rfl, rfl⟩ | ⟨k1, rfl⟩ <;> rcases hhi with ⟨rfl, rfl⟩ | ⟨k2, rfl⟩ <;> rcases hmx with ⟨rfl, rfl⟩ | ⟨⟨k3, rfl⟩, hmx⟩ <;> first
    | (simp at hmx; done)
    | (simp [Instr.sliceAt, Instr.slice, run_underlying hu, Instr.sliceBounds, b1, hz, h1, h2, h3]; done)
/-- a part of a row -/
theorem Dr.part {z m i j : Nat} {l : List D} {c c' : Option Nat} {v : Value} (hx : Dr w S (.sl z l m c) v) (h1 : i ≤ j) (h2 : j ≤ m) (mx : Option Nat) (hmx : ∀ k, mx = some k → j ≤ k ∧ k ≤ m)
    (hc' : c' = match mx with | some k => some (k - i) | none => c.map (· - i)) :
    ∃ A cap cc, v = .slice A m cap ∧ m ≤ cap ∧ (∀ k, mx = some k → cc = k) ∧ (mx = none → cc = cap) ∧ j ≤ cc ∧ cc ≤ cap ∧ Dr w S (.sl z ((l.drop (i * z)).take ((j - i) * z)) (j - i) c') (.slice (if cc = i then A else A.map (·.add (i * z))) (j - i) (cc - i)) := by
  cases hx with
  | nil z c h =>
    have : i = 0 := by omega
    have : j = 0 := by omega
    subst_vars
    refine ⟨none, 0, 0, rfl, Nat.le_refl _, fun k hk => by have := hmx k hk; omega, fun _ => rfl, Nat.le_refl _, Nat.le_refl _, ?_⟩
    simp only [Nat.sub_self, Nat.zero_mul, List.drop_nil, List.take_zero, if_true]
    refine .nil _ _ fun k hk => ?_
    cases mx with
    | none =>
      cases c with
      | none => cases hk
      | some c => simp at hk; have := h c rfl; omega
    | some k' => simp at hk; have := hmx k' rfl; omega
  | emp z c a h =>
    have : i = 0 := by omega
    have : j = 0 := by omega
    subst_vars
    refine ⟨some a, 0, 0, rfl, Nat.le_refl _, fun k hk => by have := hmx k hk; omega, fun _ => rfl, Nat.le_refl _, Nat.le_refl _, ?_⟩
    simp only [Nat.sub_self, Nat.zero_mul, List.drop_nil, List.take_zero, if_true]
    refine .emp _ _ a fun k hk => ?_
    cases mx with
    | none =>
      cases c with
      | none => cases hk
      | some c => simp at hk; have := h c rfl; omega
    | some k' => simp at hk; have := hmx k' rfl; omega
  | sl g o k us e1 e2 e3 e4 e5 e6 e7 e8 e9 =>
    have hal : Al (Dr w S) l us := ⟨e6, e9⟩
    have hs := hal.sub (i * z) ((j - i) * z)
    have hlen : ((l.drop (i * z)).take ((j - i) * z)).length = (j - i) * z := by
      rw [List.length_take, List.length_drop, e1]
      have a1 : j * z ≤ m * z := Nat.mul_le_mul_right _ h2
      have a2 : (j - i) * z = j * z - i * z := Nat.sub_mul _ _ _
      have a3 : i * z ≤ j * z := Nat.mul_le_mul_right _ h1
      omega
    have key : ∀ (cc : Nat), j ≤ cc → cc ≤ k → (∀ k', c' = some k' → k' = cc - i) → Dr w S (.sl z ((l.drop (i * z)).take ((j - i) * z)) (j - i) c') (.slice (if cc = i then some ⟨g, o, none⟩ else (some ⟨g, o, none⟩ : Option Addr).map (·.add (i * z))) (j - i) (cc - i)) := by
      intro cc hj hk hcc
      have at' : ∀ o', (o' = o + i * z ∨ j - i = 0) → Dr w S (.sl z ((l.drop (i * z)).take ((j - i) * z)) (j - i) c') (.slice (some ⟨g, o', none⟩) (j - i) (cc - i)) := by
        intro o' ho
        refine .sl g o' (cc - i) ((us.drop (i * z)).take ((j - i) * z)) hlen (by omega) (by omega) hcc e5 hs.len (fun n u hu => ?_) (fun u hu => e8 u (List.mem_of_mem_drop (List.mem_of_mem_take hu))) hs.at_
        rw [List.getElem?_take] at hu
        split at hu
        · rename_i hn
          rw [List.getElem?_drop] at hu
          rcases ho with rfl | ho
          · rw [Nat.add_assoc]; exact e7 _ u hu
          · rw [ho, Nat.zero_mul] at hn; omega
        · cases hu
      by_cases hki : cc = i
      · rw [if_pos hki]
        exact at' o (.inr (by omega))
      · rw [if_neg hki, Option.map_some, Addr.add_lit]
        exact at' _ (.inl rfl)
    cases mx with
    | none =>
      refine ⟨some ⟨g, o, none⟩, k, k, rfl, e2, (fun k' hk => by cases hk), (fun _ => rfl), by omega, Nat.le_refl _, key k (by omega) (Nat.le_refl _) fun k' hk' => ?_⟩
      subst hc'
      cases c with
      | none => cases hk'
      | some c => simp at hk'; have := e4 c rfl; omega
    | some k' =>
      have := hmx k' rfl
      refine ⟨some ⟨g, o, none⟩, k, k', rfl, e2, (fun k' hk => by cases hk; rfl), (fun hk => by cases hk), this.1, by omega, key k' this.1 (by omega) fun c hc => ?_⟩
      subst hc'
      simp at hc
      omega
theorem sliceD_ok (hT : TOk P T) (H : SR n₀ w₀ S₀ S σ s fr a w) {t : TypeId} {x : Operand} {lo hi mx : Option Operand} (ho : o.op = .slice t x lo hi mx) (X : Unit → V) (hx : Vr w S σ (X ()) (a.eval x))
    (hp : sliceD T t (X ()) (lo.map s.ev) (hi.map s.ev) (mx.map s.ev) s.h s.n (fun v h n => K (({ s with h, n } : St).put o.dst v))) : Qt P S σ o s a w K := by
  have hd : ∀ c, o.op ≠ .defer c := fun c hc => by rw [ho] at hc; cases hc
  have run : ∀ {v r : Value}, a.eval x = v → (∀ W, (Instr.sliceAt t v (lo.map a.eval) (hi.map a.eval) (mx.map a.eval)).run P W = .ok r W) → ∀ W, (execOp a.eval o).run P W = .ok (.value r) W := by
    intro v r hv h W
    simp [execOp, ho, hv, h W]
  unfold sliceD at hp
  split at hp
  · rename_i b hb
    rw [hb] at hx
    generalize hv : a.eval x = v at hx
    split at hp
    · exact hp.elim
    rename_i r hr
    split at hp
    · rename_i h1
      replace hp := chk_iff.1 hp
      obtain ⟨hm, hp⟩ := hp
      have hmx : mx = none := by cases mx <;> simp at hm ⊢
      have hu := hT.ks t r _ hr h1
      cases hx with
      | d hx =>
        cases hx
        rcases bnd_ok H hp with ⟨hlo, hp⟩ | ⟨y, k1, i, hlo, hy, hp⟩ <;> rcases bnd_ok H hp with ⟨hhi, hp⟩ | ⟨y', k2, j, hhi, hy', hp⟩ <;> obtain ⟨e0, e1, e2, hp⟩ := hp <;> rw [hmx, hlo, hhi] at run <;> refine quiet_ok (run hv ?_) (.d (.v _)) hp <;> intro W
        · simp [Instr.sliceAt, Instr.slice, run_underlying hu, Instr.sliceBounds]
        · simp [hy', Instr.sliceAt, Instr.slice, run_underlying hu, Instr.sliceBounds, run_sliceBound, e1, e2]
        · simp [hy, Instr.sliceAt, Instr.slice, run_underlying hu, Instr.sliceBounds, run_sliceBound, e0, e1]
        · have e3 : 0 ≤ j := Int.le_trans e0 e1
          have e4 : i ≤ (j.toNat : Int) := by omega
          simp [hy, hy', Instr.sliceAt, Instr.slice, run_underlying hu, Instr.sliceBounds, run_sliceBound, e0, e2, e3, run_sliceBound W k1 i j.toNat BoundsCode.sliceB e0 e4]
    · exact hp.elim
  · split at hp
    · exact hp.elim
    rename_i r hr
    split at hp
    · exact hp.elim
    rename_i e he
    split at hp
    · exact hp.elim
    rename_i q hq
    have hu := hT.el t r e hr he
    have key : ∀ {i : Int}, ((lo = none ∧ i = 0) ∨ ∃ y k, lo = some y ∧ a.eval y = .int k i) → (match X () with
          | .d (.sl z l m c) => bnd (hi.map s.ev) m fun j => 0 ≤ i ∧ i ≤ j ∧ j ≤ m ∧ chk (Nat.beq z q.size) (match mx.map s.ev with
            | none => K (({ s with h := s.h, n := s.n } : St).put o.dst (.d (.sl z ((l.drop (i.toNat * z)).take ((j.toNat - i.toNat) * z)) (j.toNat - i.toNat) (c.map (· - i.toNat)))))
            | some (.d (.v (.int _ k))) => chk (hi.map s.ev).isSome <| j ≤ k ∧ k ≤ m ∧ K (({ s with h := s.h, n := s.n } : St).put o.dst (.d (.sl z ((l.drop (i.toNat * z)).take ((j.toNat - i.toNat) * z)) (j.toNat - i.toNat) (some (k.toNat - i.toNat)))))
            | _ => False)
          | _ => False) → Qt P S σ o s a w K := by
      intro i hlo hp
      split at hp
      · rename_i z l m c hxs
        rw [hxs] at hx
        generalize hv : a.eval x = v at hx
        cases hx with
        | d hx =>
          have fin : ∀ {j : Int}, ((hi = none ∧ j = m) ∨ ∃ y k, hi = some y ∧ a.eval y = .int k j) → (0 ≤ i ∧ i ≤ j ∧ j ≤ m ∧ chk (Nat.beq z q.size) (match mx.map s.ev with
            | none => K (({ s with h := s.h, n := s.n } : St).put o.dst (.d (.sl z ((l.drop (i.toNat * z)).take ((j.toNat - i.toNat) * z)) (j.toNat - i.toNat) (c.map (· - i.toNat)))))
            | some (.d (.v (.int _ k))) => chk (hi.map s.ev).isSome <| j ≤ k ∧ k ≤ m ∧ K (({ s with h := s.h, n := s.n } : St).put o.dst (.d (.sl z ((l.drop (i.toNat * z)).take ((j.toNat - i.toNat) * z)) (j.toNat - i.toNat) (some (k.toNat - i.toNat)))))
            | _ => False)) → Qt P S σ o s a w K := by
            intro j hhi hp
            obtain ⟨p0, p1, p2, hp⟩ := hp
            replace hp := chk_iff.1 hp
            obtain ⟨hz, hp⟩ := hp
            have hz := Nat.eq_of_beq_eq_true hz
            obtain ⟨i, rfl⟩ := Int.eq_ofNat_of_zero_le p0
            obtain ⟨j, rfl⟩ := Int.eq_ofNat_of_zero_le (Int.le_trans p0 p1)
            simp only [Int.toNat_natCast] at hp
            have hlo' : (lo.map a.eval = none ∧ i = 0) ∨ ∃ k, lo.map a.eval = some (.int k (i : Int)) := by
              rcases hlo with ⟨h1, h2⟩ | ⟨y, k, h1, h2⟩
              · exact .inl ⟨by rw [h1]; rfl, by omega⟩
              · exact .inr ⟨k, by rw [h1, Option.map_some, h2]⟩
            have hhi' : (hi.map a.eval = none ∧ j = m) ∨ ∃ k, hi.map a.eval = some (.int k (j : Int)) := by
              rcases hhi with ⟨h1, h2⟩ | ⟨y, k, h1, h2⟩
              · exact .inl ⟨by rw [h1]; rfl, by omega⟩
              · exact .inr ⟨k, by rw [h1, Option.map_some, h2]⟩
            cases hmx : mx with
            | none =>
              rw [hmx] at hp
              obtain ⟨A, cap, cc, rfl, g1, g2, g3, g4, g5, g6⟩ := hx.part (i := i) (j := j) (by omega) (by omega) none (fun k hk => by cases hk) rfl
              refine quiet_ok (run hv ?_) (.d g6) hp
              intro W
              subst hz
              exact run_slice_gen hT hu hq hlo' hhi' (.inl ⟨by rw [hmx]; rfl, g3 rfl⟩) (by omega) g4 g5 W
            | some y =>
              rw [hmx] at hp
              simp only [Option.map_some] at hp
              have hy := H.ev y
              split at hp
              · rename_i he; cases he
              · rename_i k3 k' he
                simp only [Option.some.injEq] at he
                rw [he] at hy
                generalize hv3 : a.eval y = v3 at hy
                cases hy with
                | d hy =>
                  cases hy
                  replace hp := chk_iff.1 hp
                  obtain ⟨his, b1, b2, hp⟩ := hp
                  obtain ⟨k', rfl⟩ := Int.eq_ofNat_of_zero_le (Int.le_trans (Int.le_trans p0 p1) b1)
                  simp only [Int.toNat_natCast] at hp
                  obtain ⟨A, cap, cc, rfl, g1, g2, g3, g4, g5, g6⟩ := hx.part (i := i) (j := j) (by omega) (by omega) (some k') (fun k hk => by cases hk; omega) rfl
                  refine quiet_ok (run hv ?_) (.d g6) hp
                  intro W
                  subst hz
                  exact run_slice_gen hT hu hq hlo' hhi' (.inr ⟨⟨_, by rw [hmx, Option.map_some, hv3, g2 k' rfl]⟩, by cases hi <;> simp at his ⊢⟩) (by omega) g4 g5 W
              · exact hp.elim
          rcases bnd_ok H hp with ⟨hhi, hp⟩ | ⟨y', k2, j, hhi, hy', hp⟩
          · exact fin (.inl ⟨hhi, rfl⟩) hp
          · exact fin (.inr ⟨y', k2, hhi, hy'⟩) hp
      · exact hp.elim
    rcases bnd_ok H hp with ⟨hlo, hp⟩ | ⟨y, k1, i, hlo, hy, hp⟩
    · exact key (.inl ⟨hlo, rfl⟩) hp
    · exact key (.inr ⟨y, k1, hlo, hy⟩) hp
theorem SR.fz1 (H : SR n₀ w₀ S₀ S σ s fr a w) (b : Nat) : ∃ S', SR n₀ w₀ S₀ S' σ { s with h := Am.fz1 s.h b } fr a w ∧ ∀ g, S g → S' g := by
  obtain ⟨S', H', hs⟩ := H.h.fz1 b
  exact ⟨S', ⟨H', H.lo, H.lon, H.N, H.d⟩, hs⟩
theorem slice_ok (hT : TOk P T) (hF : Free F) (H : SR n₀ w₀ S₀ S σ s fr a w) {t : TypeId} {x : Operand} {lo hi mx : Option Operand} (ho : o.op = .slice t x lo hi mx)
    (hp : sliceP T t (s.ev x) (lo.map s.ev) (hi.map s.ev) (mx.map s.ev) s.h s.n (fun v h n => K (({ s with h, n } : St).put o.dst v))) : o.wpIn F k P a w (Gd n₀ w₀ S₀ fr K) Q := by
  have hd : ∀ c, o.op ≠ .defer c := fun c hc => by rw [ho] at hc; cases hc
  have hx := H.ev x
  unfold sliceP at hp
  split at hp
  · rename_i b hxb
    rw [hxb] at hx
    generalize hv : a.eval x = v at hx
    cases hx with
    | bs hσ h1 =>
      split at hp
      · rename_i e z m l hb
        have shut : sliceD T t (.d (.sl z l m none)) (lo.map s.ev) (hi.map s.ev) (mx.map s.ev) (Am.fz1 s.h b) s.n (fun v h n => K (({ s with h, n } : St).put o.dst v)) → o.wpIn F k P a w (Gd n₀ w₀ S₀ fr K) Q := by
          intro hp
          obtain ⟨S', H', hs⟩ := H.fz1 b
          have hb' : Am.fz1 s.h b b = some (.fz z m l) := by unfold Am.fz1; simp [hb]
          obtain ⟨v', g1, g2⟩ := H'.h.bx b _ hb'
          rw [hσ] at g1
          cases g1
          exact (sliceD_ok (s := { s with h := Am.fz1 s.h b }) hT H' ho (fun _ => .d (.sl z l m none)) (by rw [hv]; exact .d g2) hp).ok hF H' hd
        split at hp
        · rename_i hlo hmx
          have hlo : lo = none := by cases lo <;> simp at hlo ⊢
          have hmx : mx = none := by cases mx <;> simp at hmx ⊢
          split at hp
          · exact hp.elim
          rename_i r hr
          split at hp
          · exact hp.elim
          rename_i e' he
          split at hp
          · exact hp.elim
          rename_i q hq
          obtain ⟨v', us, g1, g2, g3, g4⟩ := H.h.bx b _ hb
          rw [hσ] at g1
          cases g1
          have fin : ∀ {j : Int}, ((hi = none ∧ j = m) ∨ ∃ y k, hi = some y ∧ a.eval y = .int k j) → (0 ≤ j ∧ j ≤ m ∧ chk (Nat.beq z q.size) (K (({ s with h := upd (kil s.h b) s.n (.ar e z j.toNat (l.take (j.toNat * z))), n := s.n + 1 } : St).put o.dst (.bs s.n)))) → o.wpIn F k P a w (Gd n₀ w₀ S₀ fr K) Q := by
            intro j hhi hp
            obtain ⟨p0, p1, hp⟩ := hp
            replace hp := chk_iff.1 hp
            obtain ⟨hz, hp⟩ := hp
            obtain rfl := Nat.eq_of_beq_eq_true hz
            obtain ⟨j, rfl⟩ := Int.eq_ofNat_of_zero_le p0
            simp only [Int.toNat_natCast] at hp
            have hjm : j ≤ m := by omega
            have hhi' : (hi.map a.eval = none ∧ j = m) ∨ ∃ k, hi.map a.eval = some (.int k (j : Int)) := by
              rcases hhi with ⟨h1, h2⟩ | ⟨y, k, h1, h2⟩
              · exact .inl ⟨by rw [h1]; rfl, by omega⟩
              · exact .inr ⟨k, by rw [h1, Option.map_some, h2]⟩
            have hjz : j * q.size ≤ m * q.size := Nat.mul_le_mul_right _ hjm
            have hul : (us.take (j * q.size)).length = j * q.size := by rw [List.length_take, g2.1]; omega
            rcases g2.2 with ⟨rfl, rfl⟩ | ⟨g, cap, cur, rfl, hg, hh, hn, hc, hs, ht⟩
            · obtain rfl : j = 0 := by omega
              have hrun : (execOp a.eval o).run P w = .ok (.value (.slice none 0 0)) w := by
                have := run_slice_gen (P := P) (A := none) (m := 0) (cap := 0) (i := 0) (j := 0) (c := 0) hT (hT.el t r e' hr he) hq (lo := lo.map a.eval) (hi := hi.map a.eval) (mx := mx.map a.eval) (.inl ⟨by rw [hlo]; rfl, rfl⟩) hhi' (.inl ⟨by rw [hmx]; rfl, rfl⟩) (Nat.le_refl _) (Nat.le_refl _) (Nat.le_refl _) w
                simp [execOp, ho, hv, this]
              exact val_ok hF hd hrun (H.h.appAr (v := .slice none 0 0) (m := 0) hb hσ (grown_refl w _) (.inl rfl) g2 ⟨hul, .inl ⟨rfl, rfl⟩⟩ (fun u hu => g3 u (List.mem_of_mem_take hu)) (g4.take _)) H.N (by have := H.lon; omega) H.lo H.d (.bs (by simp [updσ]) rfl) hp
            · have hrun : (execOp a.eval o).run P w = .ok (.value (.slice (some ⟨g, 0, none⟩) j cap)) w := by
                have := run_slice_gen (P := P) (A := some ⟨g, 0, none⟩) (m := m) (cap := cap) (i := 0) (j := j) (c := cap) hT (hT.el t r e' hr he) hq (lo := lo.map a.eval) (hi := hi.map a.eval) (mx := mx.map a.eval) (.inl ⟨by rw [hlo]; rfl, rfl⟩) hhi' (.inl ⟨by rw [hmx]; rfl, rfl⟩) (Nat.zero_le _) (by omega) (Nat.le_refl _) w
                have e0 : (if cap = 0 then some (⟨g, 0, none⟩ : Addr) else (some (⟨g, 0, none⟩ : Addr)).map (·.add (0 * q.size))) = some ⟨g, 0, none⟩ := by
                  split
                  · rfl
                  · rw [Option.map_some, Addr.add_lit, Nat.zero_mul]
                rw [e0, Nat.sub_zero, Nat.sub_zero] at this
                simp [execOp, ho, hv, this]
              refine val_ok hF hd hrun (H.h.appAr (v := .slice (some ⟨g, 0, none⟩) j cap) (m := j) hb hσ (grown_refl w _) (.inl rfl) g2 ⟨hul, .inr ⟨g, cap, cur, rfl, hg, hh, by omega, hc, hs, ?_⟩⟩ (fun u hu => g3 u (List.mem_of_mem_take hu)) (g4.take _)) H.N (by have := H.lon; omega) H.lo H.d (.bs (by simp [updσ]) rfl) hp
              rw [← ht, List.take_take, Nat.min_eq_left hjz]
          rcases bnd_ok H hp with ⟨hhi, hp⟩ | ⟨y', k2, j, hhi, hy', hp⟩
          · exact fin (.inl ⟨hhi, rfl⟩) hp
          · exact fin (.inr ⟨y', k2, hhi, hy'⟩) hp
        · exact shut hp
      · rename_i z m l hb
        obtain ⟨v', g1, g2⟩ := H.h.bx b _ hb
        rw [hσ] at g1
        cases g1
        exact (sliceD_ok hT H ho (fun _ => .d (.sl z l m none)) (by rw [hv]; exact .d g2) hp).ok hF H hd
      · exact hp.elim
  · exact (sliceD_ok hT H ho (fun _ => s.ev x) hx hp).ok hF H hd
theorem copy_run (hT : TOk P T) (H : HR n₀ w₀ S₀ S σ h n fr w) {t u ty : TypeId} {x y : V} {d v : Value} (hx : Vr w S σ x d) (hy : Vr w S σ y v) {K : V → Hp → Prop} (hp : copyP T t x y h K) :
    ∃ r w' h', K (.imm r) h' ∧ (Builtin.copy_ #[t, u] ty #[d, v]).run P w = .ok r w' ∧ HR n₀ w₀ S₀ S σ h' n fr w' := by
  unfold copyP at hp
  split at hp
  · exact hp.elim
  rename_i r hr
  split at hp
  · exact hp.elim
  rename_i e he
  split at hp
  · exact hp.elim
  rename_i q hq
  replace hp := chk_iff.1 hp
  obtain ⟨hq1, hp⟩ := hp
  have hq1 := Nat.eq_of_beq_eq_true hq1
  obtain ⟨i, z0, i1, i2, i3, i4, i5, i6, i7⟩ := hT.info e q hq
  have hu := hT.el t r e hr he
  have hsz : (P.info? e).map (·.size) = some 1 := by rw [i1, Option.map_some, i2, hq1]
  split at hp
  case h_2 => exact hp.elim
  rename_i b
  split at hp
  case h_2 => exact hp.elim
  rename_i e' z m l hb
  split at hp
  case h_2 => exact hp.elim
  rename_i z' l' m' hrow
  replace hp := chk_iff.1 hp
  obtain ⟨hz, hp⟩ := hp
  rw [Bool.and_eq_true] at hz
  obtain rfl := Nat.eq_of_beq_eq_true hz.1
  obtain rfl := Nat.eq_of_beq_eq_true hz.2
  obtain ⟨v', us, g1, g2, g3, g4⟩ := H.bx b _ hb
  cases hx with
  | bs hσ hone =>
    rw [hσ] at g1
    cases g1
    have hus : us.length = m := by rw [g2.1, Nat.mul_one]
    have hll : l.length = m := by rw [← g4.len, hus]
    have zero : min m' m = 0 → (Builtin.copy_ #[t, u] ty #[d, v]).run P w = .ok (goInt 0) w → ∃ r w' h', K (.imm r) h' ∧ (Builtin.copy_ #[t, u] ty #[d, v]).run P w = .ok r w' ∧ HR n₀ w₀ S₀ S σ h' n fr w' := by
      intro h0 hrun
      refine ⟨_, w, _, hp, by rw [hrun, h0]; rfl, ?_⟩
      rw [h0]
      simp only [List.take_zero, List.nil_append, List.drop_zero]
      have : upd h b (.ar e' 1 m l) = h := by
        funext j
        unfold upd
        by_cases e : j = b
        · subst e; simp [hb]
        · simp [beq_ne e]
      rw [this]
      exact H
    rcases g2.2 with ⟨rfl, rfl⟩ | ⟨g, cap, cur, rfl, hg, hh, hn, hc, hs, ht⟩
    · refine zero (Nat.min_zero _) ?_
      rcases row_ok H hy hrow with ⟨rfl, _, _⟩ | ⟨sa, k', us', rfl, _⟩
      · exact run_copy_none w t u ty e none none 0 0 0 0 hu hsz rfl
      · exact run_copy_none w t u ty e none _ 0 0 m' k' hu hsz (Nat.min_zero _)
    · rcases row_ok H hy hrow with ⟨rfl, rfl, rfl⟩ | ⟨sa, k', us', rfl, s1, s2, s3, s4⟩
      · exact zero (Nat.zero_min _) (run_copy_none w t u ty e _ none m cap 0 0 hu hsz (Nat.zero_min _))
      · rw [Nat.mul_one] at s1
        have hcl : (us'.take (min m' m)).length = min m' m := by rw [List.length_take, s1]; omega
        have hcs : cur.size = cap := by rw [hs, Nat.mul_one]
        have hrun := run_copy_row (P := P) w t u ty e g 0 m cap sa m' k' cur e' (us'.take (min m' m)) hu hsz hh hcl (fun j v hj => by
          rw [List.getElem?_take] at hj
          split at hj
          · exact s3 j v hj
          · cases hj) (by rw [hcl, hcs]; omega) (fun v hv => s4 v (List.mem_of_mem_take hv))
        rw [hcl] at hrun
        refine ⟨_, _, _, hp, hrun, H.wr hb rfl hσ rfl ?_⟩
        have hsx : ∀ g1, S g1 → (w.setRow g (cur.toList.take 0 ++ us'.take (min m' m) ++ cur.toList.drop (0 + min m' m)).toArray).heap[g1]? = w.heap[g1]? := fun g1 hS => setRow_other w g g1 _ (fun e => by subst e; exact H.un b _ hb rfl _ _ hσ rfl hS)
        refine ⟨_, us'.take (min m' m) ++ us.drop (min m' m), hσ, ⟨?_, .inr ⟨g, cap, _, rfl, hg, setRow_heap w g cur _ e' _ hh, hn, hc, ?_, ?_⟩⟩, ?_, ?_⟩
        · rw [List.length_append, hcl, List.length_drop, hus]; omega
        · simp only [List.size_toArray, List.length_append, List.length_take, List.length_drop, Array.length_toList, s1]
          omega
        · have := seg_take cur.toList (us'.take (min m' m)) us 0 (m * 1) ht (by rw [hcl]; omega)
          simpa [hcl] using this
        · intro q hq
          rcases List.mem_append.1 hq with hq | hq
          · exact s4 q (List.mem_of_mem_take hq)
          · exact g3 q (List.mem_of_mem_drop hq)
        · exact ((s2.take _).app (g4.drop _)).mono fun q u hq => hq.mono hsx (fun _ h => h)
end
section
variable (T : Tab)
/-- the entry of a key -/
def fnd (kd : TypeDesc) (k : Value) : List (Value × D) → Nat → Option (Option (Nat × D))
  | [], _ => some none
  | p :: l, i => match Instr.sameNow kd k p.1 with
    | some true => some (some (i, p.2))
    | some false => fnd kd k l (i + 1)
    | none => none
def keyB : TypeDesc → Value → Bool
  | .bool, .bool _ => true
  | .int k, .int k' _ => decide (k' = k)
  | .string, .string _ => true
  | _, _ => false
def zeroV (r : Ti) : V := bif r.agg then .agg (r.zero.map .imm) else .imm (r.zero.headD undef)
def okV (ok : Bool) (v : V) (b : Bool) : V := bif ok then .tup [v, .imm (.bool b)] else v
def makeMapP (h : Hp) (n : Nat) (K : V → Hp → Nat → Prop) : Prop := K (.bs n) (upd h n (.mp [])) (n + 1)
def lookP (t : TypeId) (x k : V) (ok : Bool) (h : Hp) (K : V → Prop) : Prop :=
  match T t with
  | none => False
  | some r => match r.kind with
    | some (.map kt et) => (match T kt with
      | none => False
      | some rk => match rk.kind with
        | none => False
        | some kd => match T et with
          | none => False
          | some re => match k with
            | .d (.v kv) => chk (keyB kd kv) <| (match x with
              | .bs b => (match h b with
                | some (.mp l) => ∃ q, fnd kd kv l 0 = some q ∧ (match q with
                  | some (_, d) => K (okV ok d.toV true)
                  | none => K (okV ok (zeroV re) false))
                | _ => False)
              | .d (.v (.map none)) => K (okV ok (zeroV re) false)
              | _ => False)
            | _ => False)
    | _ => False
def mapUpP (t : TypeId) (m k v : V) (h : Hp) (K : Hp → Prop) : Prop :=
  match T t with
  | none => False
  | some r => match r.kind with
    | some (.map kt _) => (match T kt with
      | none => False
      | some rk => match rk.kind with
        | none => False
        | some kd => match k with
          | .d (.v kv) => chk (keyB kd kv) <| (match m with
            | .bs b => (match frz h v b with
              | some (.mp l) => ∃ q, fnd kd kv l 0 = some q ∧ (match q with
                | none => K (upd (frz h v) b (.mp (l ++ [(kv, dat h v)])))
                | some (i, _) => K (upd (frz h v) b (.mp (l.set i (kv, dat h v)))))
              | _ => False)
            | _ => False)
          | _ => False)
    | _ => False
end
section
variable {n₀ : Nat} {w₀ w w' : World} {S₀ S S' : Nat → Prop} {σ σ' : Sg} {h : Hp} {n k : Nat} {fr : List Fr} {P : Program} {T : Tab} {F : Fence} {o : Oper} {s : St} {a : Act} {Q : Exit → Act → World → Prop} {K : St → Prop}
theorem toV_al {l : List D} {us : List Value} (hal : Al (Dr w S) l us) : Al (Vr w S σ) (l.map .d) us := hal.map_d
theorem toV_ok {x : D} {v : Value} (hx : Dr w S x v) : Vr w S σ x.toV v := by
  cases hx with
  | agg vs h1 h0 h2 => exact .agg vs (by simpa using h1) h0 (toV_al ⟨h1, h2⟩).at_
  | tup vs h1 h2 =>
    refine .tup vs (by simpa using h1) fun i x u hx hu => ?_
    rw [List.getElem?_map] at hx
    rename_i l
    cases e : l[i]? with
    | none => rw [e] at hx; cases hx
    | some y =>
      rw [e] at hx
      cases hx
      have hy := h2 i y u e hu
      cases hy with
      | agg vs h1 h0 h2 => exact .agg vs (by simpa using h1) h0 (toV_al ⟨h1, h2⟩).at_
      | v => exact .d (.v _)
      | no => exact .d (.no _)
      | nil z c h => exact .d (.nil z c h)
      | emp z c a h => exact .d (.emp z c a h)
      | sl g o k us e1 e2 e3 e4 e5 e6 e7 e8 e9 => exact .d (.sl g o k us e1 e2 e3 e4 e5 e6 e7 e8 e9)
      | fn vs e1 e2 => exact .d (.fn vs e1 e2)
      | tup vs e1 e2 => exact .d (.tup vs e1 e2)
      | ifc e1 => exact .d (.ifc e1)
  | v => exact .d (.v _)
  | no => exact .d (.no _)
  | nil z c h => exact .d (.nil z c h)
  | emp z c a h => exact .d (.emp z c a h)
  | sl g o k us e1 e2 e3 e4 e5 e6 e7 e8 e9 => exact .d (.sl g o k us e1 e2 e3 e4 e5 e6 e7 e8 e9)
  | fn vs e1 e2 => exact .d (.fn vs e1 e2)
  | ifc e1 => exact .d (.ifc e1)
theorem fnd_ok {kd : TypeDesc} {kv : Value} : ∀ (es : List MapEntry) (l : List (Value × D)) (i : Nat) (q : Option (Nat × D)), es.map MapEntry.key = l.map Prod.fst → Al (Dr w S) (l.map Prod.snd) (es.map MapEntry.val) → fnd kd kv l i = some q →
    (q = none ∧ Instr.findNow kd kv es i = some none) ∨ ∃ j d v, q = some (j, d) ∧ Instr.findNow kd kv es i = some (some (j, v)) ∧ Dr w S d v
  | [], [], i, q, _, _, h => by cases h; exact .inl ⟨rfl, rfl⟩
  | [], p :: l, i, q, hk, _, _ => by simp at hk
  | e :: es, [], i, q, hk, _, _ => by simp at hk
  | e :: es, p :: l, i, q, hk, hv, h => by
    simp only [List.map_cons, List.cons.injEq] at hk
    have h0 : Dr w S p.2 e.val := hv.at_ 0 _ _ rfl rfl
    have ht : Al (Dr w S) (l.map Prod.snd) (es.map MapEntry.val) := ⟨by have := hv.len; simpa using this, fun i x u hx hu => hv.at_ (i + 1) x u (by simpa using hx) (by simpa using hu)⟩
    unfold fnd at h
    unfold Instr.findNow
    rw [hk.1]
    split at h
    · rename_i e1
      cases h
      rw [e1]
      exact .inr ⟨_, _, _, rfl, rfl, h0⟩
    · rename_i e1
      rw [e1]
      exact fnd_ok es l (i + 1) q hk.2 ht h
    · cases h
theorem fnd_at {kd : TypeDesc} {kv : Value} : ∀ (l : List (Value × D)) (i j : Nat) (d : D), fnd kd kv l i = some (some (j, d)) → ∃ k p, j = i + k ∧ l[k]? = some p ∧ Instr.sameNow kd kv p.1 = some true
  | [], i, j, d, h => by cases h
  | p :: l, i, j, d, h => by
    unfold fnd at h
    split at h
    · rename_i e
      cases h
      exact ⟨0, p, rfl, rfl, e⟩
    · obtain ⟨k, q, e1, e2, e3⟩ := fnd_at l (i + 1) j d h
      exact ⟨k + 1, q, by omega, e2, e3⟩
    · cases h
theorem same_key {kd : TypeDesc} {kv q : Value} (hk : keyB kd kv = true) (h : Instr.sameNow kd kv q = some true) : q = kv ∧ Instr.sameBits 10000 q kv = true := by
  unfold keyB at hk
  split at hk <;> cases q <;> simp [Instr.sameNow] at h <;> first | (have h' := (MapKept.bytes_beq _ _).1 h; subst h'; exact ⟨rfl, h⟩) | simp_all [Instr.sameBits]
theorem keyB_ok {kd : TypeDesc} {kv : Value} (h : keyB kd kv = true) : MapKept.IsKey kd kv := by
  unfold keyB at h
  split at h
  · trivial
  · rename_i k k' n
    show k' = k
    simpa using h
  · trivial
  · cases h
theorem zero_run (hT : TOk P T) {e : TypeId} {r : Ti} (hr : T e = some r) (w : World) : ∃ z, (zeroValue e).run P w = .ok z w ∧ Vr w S σ (zeroV r) z := by
  obtain ⟨i, h1, h2⟩ := hT.zv e r hr
  obtain ⟨i', z, g1, g2, g3, g4, g5, g6, g7⟩ := hT.info e r hr
  rw [h1] at g1
  cases g1
  refine ⟨if r.agg = true then .agg r.zero.toArray else r.zero.headD undef, by simp [zeroValue, typeInfo, h1, h2], ?_⟩
  unfold zeroV
  cases r.agg with
  | true =>
    refine .agg r.zero (by simp) g7 fun j x u hx hu => ?_
    rw [List.getElem?_map, hu] at hx
    cases hx
    exact .d (.v u)
  | false => exact .d (.v _)
theorem okV_ok {x : V} {v : Value} (hx : Vr w S σ x v) (ok b : Bool) : Vr w S σ (okV ok x b) (if ok = true then .tuple #[v, .bool b] else v) := by
  cases ok with
  | false => exact hx
  | true =>
    exact .tup [v, .bool b] rfl (fun i y u hy hu => by
      match i with
      | 0 => cases hy; cases hu; exact hx
      | 1 => cases hy; cases hu; exact .d (.v _)
      | i + 2 => simp at hy)
theorem look_ok (hT : TOk P T) (hF : Free F) (H : SR n₀ w₀ S₀ S σ s fr a w) {t : TypeId} {x y : Operand} {ok : Bool} (ho : o.op = .lookup t x y ok) (hp : lookP T t (s.ev x) (s.ev y) ok s.h (fun v => K (s.put o.dst v))) : o.wpIn F k P a w (Gd n₀ w₀ S₀ fr K) Q := by
  have hx := H.ev x
  have hy := H.ev y
  have hd : ∀ c, o.op ≠ .defer c := fun c hc => by rw [ho] at hc; cases hc
  unfold lookP at hp
  split at hp
  · exact hp.elim
  rename_i r hr
  split at hp
  case h_2 => exact hp.elim
  rename_i kt et hk
  split at hp
  · exact hp.elim
  rename_i rk hrk
  split at hp
  · exact hp.elim
  rename_i kd hkd
  split at hp
  · exact hp.elim
  rename_i re hre
  split at hp
  case h_2 => exact hp.elim
  rename_i kv hkv
  rw [hkv] at hy
  generalize hyv : a.eval y = yv at hy
  cases hy with
  | d hy =>
    cases hy
    replace hp := chk_iff.1 hp
    obtain ⟨hkb, hp⟩ := hp
    have hu := hT.ks t r _ hr hk
    have huk := hT.ks kt rk _ hrk hkd
    have hck := fun e => MapKept.run_checkKey (w := w) huk (keyB_ok hkb) e 9999
    obtain ⟨z, hz, hzx⟩ := zero_run (S := S) (σ := σ) hT hre w
    have fin : ∀ {v : Value} {x' : V}, (execOp a.eval o).run P w = .ok (.value v) w → Vr w S σ x' v → K (s.put o.dst x') → o.wpIn F k P a w (Gd n₀ w₀ S₀ fr K) Q := fun h1 h2 h3 => val_ok (s := s) (h' := s.h) (n' := s.n) hF hd h1 H.h H.N H.lon H.lo H.d h2 h3
    split at hp
    · rename_i b hb
      rw [hb] at hx
      generalize hv : a.eval x = v at hx
      cases hx with
      | bs hσ h1 =>
        split at hp
        case h_2 => exact hp.elim
        rename_i l hbl
        obtain ⟨g, es, clock, e1, e2, e3, e4, e5⟩ := H.h.bx b _ hbl
        rw [hσ] at e1
        cases e1
        obtain ⟨q, hq, hp⟩ := hp
        rcases fnd_ok es.toList l 0 q e4 e5 hq with ⟨rfl, hf⟩ | ⟨j, d, u, rfl, hf, hdv⟩
        · refine fin (v := if ok = true then .tuple #[z, .bool false] else z) ?_ (okV_ok hzx ok false) hp
          cases ok <;> simp [execOp, ho, hv, hyv, Instr.lookup, run_underlying hu, MapKept.run_getObj_map e3, hck, MapKept.run_findKey huk hf, hz, Result.andThen]
        · refine fin (v := if ok = true then .tuple #[u, .bool true] else u) ?_ (okV_ok (toV_ok hdv) ok true) hp
          cases ok <;> simp [execOp, ho, hv, hyv, Instr.lookup, run_underlying hu, MapKept.run_getObj_map e3, hck, MapKept.run_findKey huk hf, Result.andThen]
    · rename_i hb
      rw [hb] at hx
      generalize hv : a.eval x = v at hx
      cases hx with
      | d hx =>
        cases hx
        have hf : (Instr.findKey kt kv []).run P w = .ok none w := MapKept.run_findKey huk rfl
        refine fin (v := if ok = true then .tuple #[z, .bool false] else z) ?_ (okV_ok hzx ok false) hp
        cases ok <;> simp [execOp, ho, hv, hyv, Instr.lookup, run_underlying hu, hck, hf, hz, Result.andThen]
    · exact hp.elim
theorem makeMap_ok (hF : Free F) (H : SR n₀ w₀ S₀ S σ s fr a w) {t : TypeId} (ho : o.op = .makeMap t none) (hp : makeMapP s.h s.n (fun v h n => K (({ s with h, n } : St).put o.dst v))) : o.wpIn F k P a w (Gd n₀ w₀ S₀ fr K) Q := by
  have hd : ∀ c, o.op ≠ .defer c := fun c hc => by rw [ho] at hc; cases hc
  refine val_ok hF hd (w' := w.alloc (.map #[] 0)) (v := .map (some w.heap.size)) ?_ (H.h.grow (row := none) (v := .map (some w.heap.size)) (o := .mp []) (fun _ _ h => h) (fun g e => by cases e) (fun g e => by cases e) (fun _ _ _ _ _ _ _ _ e => by cases e) (World.grownBy_alloc _ _ _) (fun g hg => .inr (by cases hg; exact Nat.le_refl _)) ⟨w.heap.size, #[], 0, by simp [updσ], H.h.size, ha_new w _, rfl, .nil⟩) H.N (by have := H.lon; omega) H.lo H.d (.bs (by simp [updσ]) rfl) hp
  simp [execOp, ho, run_makeMap]
theorem mapUp_ok (hT : TOk P T) (hF : Free F) (H : SR n₀ w₀ S₀ S σ s fr a w) {t : TypeId} {m y v : Operand} (ho : o.op = .insert t m y v ∨ o.op = .mapUpdate t m y v) (hp : mapUpP T t (s.ev m) (s.ev y) (s.ev v) s.h (fun h => K (({ s with h } : St).put o.dst (.d .no)))) : o.wpIn F k P a w (Gd n₀ w₀ S₀ fr K) Q := by
  have hx := H.ev m
  have hy := H.ev y
  have hvv := H.ev v
  have hd : ∀ c, o.op ≠ .defer c := fun c hc => by rcases ho with ho | ho <;> rw [ho] at hc <;> cases hc
  unfold mapUpP at hp
  split at hp
  · exact hp.elim
  rename_i r hr
  split at hp
  case h_2 => exact hp.elim
  rename_i kt et hk
  split at hp
  · exact hp.elim
  rename_i rk hrk
  split at hp
  · exact hp.elim
  rename_i kd hkd
  split at hp
  case h_2 => exact hp.elim
  rename_i kv hkv
  rw [hkv] at hy
  generalize hyv : a.eval y = yv at hy
  cases hy with
  | d hy =>
    cases hy
    replace hp := chk_iff.1 hp
    obtain ⟨hkb, hp⟩ := hp
    have hu := hT.ks t r _ hr hk
    have huk := hT.ks kt rk _ hrk hkd
    have hck := fun e => MapKept.run_checkKey (w := w) huk (keyB_ok hkb) e 9999
    split at hp
    case h_2 => exact hp.elim
    rename_i b hb
    rw [hb] at hx
    generalize hv : a.eval m = mv at hx
    cases hx with
    | bs hσ h1 =>
      split at hp
      case h_2 => exact hp.elim
      rename_i l hbl
      obtain ⟨q, hq, hp⟩ := hp
      obtain ⟨g1, S2, g2, g3, g4⟩ := frz_ok (s.ev v) (a.eval v) s.h S H.h hvv
      obtain ⟨g, es, clock, e1, e2, e3, e4, e5⟩ := g2.bx b _ hbl
      rw [hσ] at e1
      cases e1
      rcases fnd_ok es.toList l 0 q e4 e5 hq with ⟨rfl, hf⟩ | ⟨j, dd, vv, rfl, hf, _⟩
      · have hlt := (Array.getElem?_eq_some_iff.1 e3).1
        have hoth : ∀ k, k ≠ g → (w.heap.setIfInBounds g (.map (es.push { key := kv, val := a.eval v, born := clock }) (clock + 1)))[k]? = w.heap[k]? := fun k hk => by rw [Array.getElem?_setIfInBounds_ne (Ne.symm hk)]
        have hgb : w.grownBy { w with heap := w.heap.setIfInBounds g (.map (es.push { key := kv, val := a.eval v, born := clock }) (clock + 1)) } (some g) := ⟨rfl, rfl, rfl, by simp, fun k _ hk => hoth k (fun e => hk (by rw [e]))⟩
        refine skip_ok (s := s) hF hd (w' := { w with heap := w.heap.setIfInBounds g (.map (es.push { key := kv, val := a.eval v, born := clock }) (clock + 1)) }) ?_ (g2.wrg hbl rfl hσ rfl hgb fun b1 p1 hb1 => (upd_eq hb1).imp ?_ id) H.N H.lon H.lo H.d hp
        · rcases ho with ho | ho <;> simp [execOp, ho, hv, hyv, Instr.mapUpdate, run_underlying hu, MapKept.run_getObj_map e3, hck, MapKept.run_findKey huk hf, MapKept.run_setObj_map _ e3, Result.andThen]
        · rintro ⟨rfl, rfl⟩
          refine ⟨rfl, g, es.push { key := kv, val := a.eval v, born := clock }, clock + 1, hσ, e2, by simp [hlt], by simp [e4], ?_⟩
          have hS2 : ∀ g', S2 g' → (w.heap.setIfInBounds g (.map (es.push { key := kv, val := a.eval v, born := clock }) (clock + 1)))[g']? = w.heap[g']? := fun g' hg' => hoth g' (fun e => by subst e; exact g2.un b1 _ hbl rfl _ _ hσ rfl hg')
          have e6 := e5.mono fun x u hx => hx.mono (w' := { w with heap := w.heap.setIfInBounds g (.map (es.push { key := kv, val := a.eval v, born := clock }) (clock + 1)) }) hS2 (fun _ h => h)
          have e7 := g4.mono (w' := { w with heap := w.heap.setIfInBounds g (.map (es.push { key := kv, val := a.eval v, born := clock }) (clock + 1)) }) hS2 (fun _ h => h)
          simpa using e6.app (.cons e7 .nil)
      · have hlt := (Array.getElem?_eq_some_iff.1 e3).1
        obtain ⟨j', p, ej, hj, hsame⟩ := fnd_at l 0 j dd hq
        obtain rfl : j = j' := by omega
        obtain ⟨hkey, hbits⟩ := same_key hkb hsame
        have hjl : j < l.length := (List.getElem?_eq_some_iff.1 hj).1
        have hel : es.toList.length = l.length := by have := congrArg List.length e4; simpa using this
        have hej : j < es.size := by rw [← Array.length_toList, hel]; exact hjl
        have hek : es[j].key = kv := by
          have h1 : (es.toList.map MapEntry.key)[j]? = some es[j].key := by simp [hej]
          rw [e4, List.getElem?_map, hj] at h1
          have := Option.some.inj h1
          rw [← this]
          exact hkey
        have hstay : (Instr.keyThatStays (((es[j]?).map (·.key)).getD kv) kv).run P w = .ok kv w := by
          rw [Array.getElem?_eq_getElem hej]
          simp only [Option.map_some, Option.getD_some, hek]
          unfold Instr.keyThatStays
          rw [hkey] at hbits
          simp [hbits]
        have hoth : ∀ k, k ≠ g → (w.heap.setIfInBounds g (.map (es.modify j fun e => { e with key := kv, val := a.eval v }) clock))[k]? = w.heap[k]? := fun k hk => by rw [Array.getElem?_setIfInBounds_ne (Ne.symm hk)]
        have hgb : w.grownBy { w with heap := w.heap.setIfInBounds g (.map (es.modify j fun e => { e with key := kv, val := a.eval v }) clock) } (some g) := ⟨rfl, rfl, rfl, by simp, fun k _ hk => hoth k (fun e => hk (by rw [e]))⟩
        refine skip_ok (s := s) hF hd (w' := { w with heap := w.heap.setIfInBounds g (.map (es.modify j fun e => { e with key := kv, val := a.eval v }) clock) }) ?_ (g2.wrg hbl rfl hσ rfl hgb fun b1 p1 hb1 => (upd_eq hb1).imp ?_ id) H.N H.lon H.lo H.d hp
        · rcases ho with ho | ho <;> simp [execOp, ho, hv, hyv, Instr.mapUpdate, run_underlying hu, MapKept.run_getObj_map e3, hck, MapKept.run_findKey huk hf, hstay, MapKept.run_setObj_map _ e3, Result.andThen]
        · rintro ⟨rfl, rfl⟩
          have hS2 : ∀ g', S2 g' → (w.heap.setIfInBounds g (.map (es.modify j fun e => { e with key := kv, val := a.eval v }) clock))[g']? = w.heap[g']? := fun g' hg' => hoth g' (fun e => by subst e; exact g2.un b1 _ hbl rfl _ _ hσ rfl hg')
          have e6 := e5.mono fun x u hx => hx.mono (w' := { w with heap := w.heap.setIfInBounds g (.map (es.modify j fun e => { e with key := kv, val := a.eval v }) clock) }) hS2 (fun _ h => h)
          have e7 := g4.mono (w' := { w with heap := w.heap.setIfInBounds g (.map (es.modify j fun e => { e with key := kv, val := a.eval v }) clock) }) hS2 (fun _ h => h)
          refine ⟨rfl, g, es.modify j fun e => { e with key := kv, val := a.eval v }, clock, hσ, e2, by simp [hlt], ?_, ?_⟩
          · apply List.ext_getElem?
            intro i
            rw [List.getElem?_map, List.getElem?_map, Array.getElem?_toList, Array.getElem?_modify, List.getElem?_set]
            have h1 := congrArg (·[i]?) e4
            simp only [List.getElem?_map, Array.getElem?_toList] at h1
            by_cases hij : j = i
            · subst hij
              rw [if_pos rfl, if_pos rfl, if_pos hjl, Array.getElem?_eq_getElem hej]
              rfl
            · rw [if_neg hij, if_neg hij]
              exact h1
          · refine ⟨by simp [hel], fun i x u hx hu => ?_⟩
            rw [List.getElem?_map, List.getElem?_set] at hx
            rw [List.getElem?_map, Array.getElem?_toList, Array.getElem?_modify] at hu
            by_cases hij : j = i
            · subst hij
              rw [if_pos rfl, if_pos hjl] at hx
              rw [if_pos rfl, Array.getElem?_eq_getElem hej] at hu
              cases hx
              cases hu
              exact e7
            · rw [if_neg hij] at hx hu
              refine e6.at_ i x u ?_ ?_
              · rw [List.getElem?_map]; exact hx
              · rw [List.getElem?_map, Array.getElem?_toList]; exact hu
end
end Go.Proofs.YtkhgpnbhnipndaaGreatDoor.Am
end
