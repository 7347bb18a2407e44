/- What the law leans on, part 10: declarations of several texts of ours, in their order. -/
import Derived.Test.YtcpaajecppplhaaGreatDoorXN8
import Derived.Great.BuildSlice
import Derived.Laws.Slices
section
/-! Rows: elements, lengths, growing, slicing. -/
namespace Go.Proofs.YtcpaajecppplhaaGreatDoor.Am
open Go Go.RowKit
set_option linter.unusedVariables false
set_option linter.unusedSimpArgs false
section
variable (T : Tab)
/-- a row of one's own, made -/
def makeP (t : TypeId) (x y : V) (h : Hp) (n : Nat) (K : V → Hp → Nat → Prop) : Prop :=
  match T t with
  | none => False
  | some r => match r.el with
    | none => False
    | some e => match T e with
      | none => False
      | some q => match x, y with
        | .d (.v (.int _ j)), .d (.v (.int _ j')) => j = j' ∧ 0 ≤ j ∧ j.toNat ≤ maxLen ∧ q.bytes * j.toNat ≤ 281474976710656 ∧ chk (Nat.beq q.size 1) (match q.zero with | [z] => K (.bs n) (upd h n (.ar e 1 j.toNat (List.replicate j.toNat (.v z)))) (n + 1) | _ => False)
        | _, _ => False
/-- a row of parts -/
def buildSliceP (t : TypeId) (len : Nat) (parts : List (Nat × V)) (h : Hp) (n : Nat) (K : V → Hp → Nat → Prop) : Prop :=
  match T t with
  | none => False
  | some r => match r.el with
    | none => False
    | some e => match T e with
      | none => False
      | some q => chk (Nat.blt 0 (len * q.size) && Nat.ble (len * q.size) 4096) <| match fillV (fun i => some (i * q.size, q.size)) ((List.range (len * q.size)).map fun i => .imm (q.zero[i % q.size]?.getD undef)) parts with
        | some l => match allD (l.map fun x => .d (dat h x)) with
          | some ds => K (.bs n) (upd (frz.frzs h l) n (.ar e q.size len ds)) (n + 1)
          | none => False
        | none => False
/-- bounds -/
def bnd (x : Option V) (d : Int) (K : Int → Prop) : Prop :=
  match x with
  | none => K d
  | some (.d (.v (.int _ j))) => K j
  | _ => False
def sliceP (t : TypeId) (x : V) (lo hi mx : Option V) (h : Hp) (n : Nat) (K : V → Hp → Nat → Prop) : Prop :=
  match x with
  | .d (.v (.string s)) => (match T t with
    | none => False
    | some r => match r.kind with
      | some .string => chk mx.isNone <| bnd lo 0 fun i => bnd hi s.size fun j => 0 ≤ i ∧ i ≤ j ∧ j ≤ s.size ∧ K (.imm (.string (s.extract i.toNat j.toNat))) h n
      | _ => False)
  | x => match T t with
    | none => False
    | some r => match r.el with
      | none => False
      | some e => match T e with
        | none => False
        | some q => bnd lo 0 fun i => match x with
          | .d (.sl z l m c) => bnd hi m fun j => 0 ≤ i ∧ i ≤ j ∧ j ≤ m ∧ chk (Nat.beq z q.size) (match mx with
            | none => K (.d (.sl z ((l.drop (i.toNat * z)).take ((j.toNat - i.toNat) * z)) (j.toNat - i.toNat) (c.map (· - i.toNat)))) h n
            | some (.d (.v (.int _ k))) => chk hi.isSome <| j ≤ k ∧ k ≤ m ∧ K (.d (.sl z ((l.drop (i.toNat * z)).take ((j.toNat - i.toNat) * z)) (j.toNat - i.toNat) (some (k.toNat - i.toNat)))) h n
            | _ => False)
          | _ => False
end
section
variable {n₀ : Nat} {w₀ w w' : World} {S₀ S S' : Nat → Prop} {σ σ' : Sg} {h : Hp} {n k : Nat} {fr : List Fr} {P : Program} {T : Tab} {F : Fence} {o : Oper} {s : St} {a : Act} {Q : Exit → Act → World → Prop} {K : St → Prop}
/-- a row as it lies in memory -/
theorem row_ok (H : HR n₀ w₀ S₀ S σ h n fr w) {x : V} {v : Value} {z m : Nat} {l : List D} (hx : Vr w S σ x v) (hr : row h x = some (z, l, m)) :
    (v = .slice none 0 0 ∧ l = [] ∧ m = 0) ∨ ∃ g o k us, v = .slice (some ⟨g, o, none⟩) m k ∧ us.length = m * z ∧ Al (Dr w S) l us ∧ (∀ i u, us[i]? = some u → w.cell? ⟨g, o + i, none⟩ = some u) ∧ ∀ u, u ∈ us → u.oneCell' = true := by
  have data : ∀ {z m : Nat} {l : List D} {c : Option Nat} {v : Value}, Dr w S (.sl z l m c) v → (v = .slice none 0 0 ∧ l = [] ∧ m = 0) ∨ ∃ g o k us, v = .slice (some ⟨g, o, none⟩) m k ∧ us.length = m * z ∧ Al (Dr w S) l us ∧ (∀ i u, us[i]? = some u → w.cell? ⟨g, o + i, none⟩ = some u) ∧ ∀ u, u ∈ us → u.oneCell' = true := by
    intro z m l c v hd
    cases hd with
    | nil z c h => exact .inl ⟨rfl, rfl, rfl⟩
    | sl g o k us h1 h2 h3 h4 h5 h6 h7 h8 h9 => exact .inr ⟨g, o, k, us, rfl, by rw [h6, h1], ⟨h6, h9⟩, h7, h8⟩
  unfold row at hr
  split at hr
  · cases hr
    cases hx with
    | d hx => exact data hx
  · cases hr
    cases hx with
    | d hx => cases hx; exact .inl ⟨rfl, rfl, rfl⟩
  · rename_i b
    cases hx with
    | bs hx h1 =>
      split at hr
      · rename_i e z' n' l' hb
        cases hr
        obtain ⟨v', us, g1, g2, g3, g4⟩ := H.bx b _ hb
        rw [hx] at g1
        cases g1
        rcases g2.2 with ⟨rfl, rfl⟩ | ⟨g, cap, cur, rfl, hg, hh, hn, hc, hs, ht⟩
        · have : l = [] := List.eq_nil_of_length_eq_zero (by rw [← g4.len, g2.1]; simp)
          exact .inl ⟨rfl, this, rfl⟩
        · refine .inr ⟨g, 0, cap, us, rfl, g2.1, g4, fun i u hu => ?_, g3⟩
          rw [Nat.zero_add, g2.cellAt i (by rw [← g2.1]; exact (List.getElem?_eq_some_iff.1 hu).1)]
          exact hu
      · rename_i z' n' l' hb
        cases hr
        obtain ⟨v', g1, g2⟩ := H.bx b _ hb
        rw [hx] at g1
        cases g1
        exact data g2
      · cases hr
  · cases hr
theorem grown_refl (w : World) (row : Option Nat) : w.grownBy w row := ⟨rfl, rfl, rfl, Nat.le_refl _, fun _ _ _ => rfl⟩
theorem own_one {w : World} {b e z m : Nat} {v : Value} {us : List Value} (h : w.ownsRow b e z v m us) : v.oneCell' = true := by
  rcases h.2 with ⟨rfl, _⟩ | ⟨g, cap, cur, rfl, _⟩ <;> rfl
/-- what is appended, and where -/
theorem app_run (hT : TOk P T) (H : HR n₀ w₀ S₀ S σ h n fr w) {t ty : TypeId} {x y : V} {u v : Value} (hx : Vr w S σ x u) (hy : Vr w S σ y v) {K : V → Hp → Nat → Prop} (hp : appP T t x y h n K) :
    ∃ r w' σ' h', K (.bs n) h' (n + 1) ∧ (Builtin.append_ #[t, t] ty #[u, v]).run P w = .ok r w' ∧ HR n₀ w₀ S₀ S σ' h' (n + 1) fr w' ∧ σ' n = some r ∧ r.oneCell' = true := by
  unfold appP at hp
  split at hp
  · exact hp.elim
  rename_i r hr
  split at hp
  · exact hp.elim
  rename_i e he
  split at hp
  · exact hp.elim
  rename_i q hq
  replace hp := chk_iff.1 hp
  obtain ⟨hpos, hp⟩ := hp
  have hpos : 0 < q.size := by rw [Nat.blt_eq] at hpos; exact hpos
  split at hp
  · exact hp.elim
  rename_i z l m hrow
  replace hp := chk_iff.1 hp
  obtain ⟨hz, hp⟩ := hp
  have hz : z = q.size ∨ m = 0 := by
    rcases Bool.or_eq_true_iff.1 hz with hz | hz
    · exact .inl (Nat.eq_of_beq_eq_true hz)
    · exact .inr (Nat.eq_of_beq_eq_true hz)
  obtain ⟨i, z0, h1, h2, h3, h4, h5, h6, h7⟩ := hT.info e q hq
  have hu := hT.el t r e hr he
  have hzs : z0.cells.size = q.size := by rw [← Array.length_toList, h5, h6]
  have src := row_ok H hy hrow
  split at hp
  · obtain ⟨b1, b2, hp⟩ := hp
    cases hx with
    | d hx =>
      cases hx
      rcases src with ⟨rfl, rfl, rfl⟩ | ⟨g, o, c, us, rfl, hl, hal, hc, h1'⟩
      · have hr0 := run_append_owned_none (P := P) (w := w) n₀ t ty e i q.size hu h1 (.slice none 0 0) 0 [] (World.ownsRow_nil w n₀ e q.size)
        refine ⟨_, w, _, _, hp, hr0, H.newAr (v := .slice none 0 0) (grown_refl w none) (.inl rfl) (World.ownsRow_nil w n₀ e q.size) (fun u hu => by simp at hu) .nil, by simp [updσ], rfl⟩
      · have hl' : us.length = m * q.size := by rcases hz with hz | hz <;> subst hz <;> simp [hl]
        obtain ⟨v', w', r1, r2, r3, r4, r5⟩ := run_append_own_at (P := P) w n₀ t ty e i z0 q.size q.bytes hu h1 h4 h2 h3 hzs hpos (.slice none 0 0) 0 [] (World.ownsRow_nil w n₀ e q.size) ⟨g, o, none⟩ m c us hl' (fun j u hj => by rw [Addr.add_lit]; exact hc j u hj) h1' (by omega) (by rw [Nat.zero_add]; exact b2) H.size
        rw [Nat.zero_add, List.nil_append] at r2
        exact ⟨v', w', _, _, hp, r1, H.newAr r3 r5 r2 h1' hal, by simp [updσ], own_one r2⟩
  · rename_i b
    cases hx with
    | bs hx hone =>
      split at hp
      · rename_i e' z' k' l' hb
        replace hp := chk_iff.1 hp
        obtain ⟨hez, b1, b2, hp⟩ := hp
        rw [Bool.and_eq_true] at hez
        obtain ⟨he1, he2⟩ := hez
        obtain rfl := Nat.eq_of_beq_eq_true he1
        obtain rfl := Nat.eq_of_beq_eq_true he2
        obtain ⟨v0, us0, g1, g2, g3, g4⟩ := H.bx b _ hb
        rw [hx] at g1
        cases g1
        rcases src with ⟨rfl, rfl, rfl⟩ | ⟨g, o, c, us, rfl, hl, hal, hc, h1'⟩
        · have hr0 := run_append_owned_none (P := P) (w := w) n₀ t ty e' i q.size hu h1 u k' us0 g2
          rw [Nat.add_zero, List.append_nil] at hp
          exact ⟨_, w, _, _, hp, hr0, H.appAr hb hx (grown_refl w _) (.inl rfl) g2 g2 g3 g4, by simp [updσ], hone⟩
        · have hl' : us.length = m * q.size := by rcases hz with hz | hz <;> subst hz <;> simp [hl]
          obtain ⟨v', w', r1, r2, r3, r4, r5⟩ := run_append_own_at (P := P) w n₀ t ty e' i z0 q.size q.bytes hu h1 h4 h2 h3 hzs hpos u k' us0 g2 ⟨g, o, none⟩ m c us hl' (fun j u hj => by rw [Addr.add_lit]; exact hc j u hj) h1' b1 b2 H.size
          exact ⟨v', w', _, _, hp, r1, H.appAr hb hx r3 r5 g2 r2 (fun u hu => (List.mem_append.1 hu).elim (g3 u) (h1' u)) (g4.app hal), by simp [updσ], own_one r2⟩
      · exact hp.elim
  · exact hp.elim
theorem len_ok (hT : TOk P T) {t ty : TypeId} (H : HR n₀ w₀ S₀ S σ h n fr w) {x : V} {v : Value} (hx : Vr w S σ x v) {K : V → Prop} (hp : lenP T t h x K) :
    ∃ m : Nat, K (.imm (.int .i64 m)) ∧ ∀ W, (Builtin.len_ #[t] ty #[v]).run P W = .ok (.int .i64 m) W := by
  unfold lenP at hp
  split at hp
  · exact hp.elim
  rename_i r hr
  split at hp
  · rename_i b
    cases hx with
    | d hx =>
      cases hx
      split at hp
      · rename_i hk
        exact ⟨_, hp, fun W => by simp [Builtin.len_, run_underlying (hT.ks t r _ hr hk), goInt]⟩
      · exact hp.elim
  · split at hp
    · exact hp.elim
    rename_i e he
    split at hp
    · rename_i z l m hrow
      refine ⟨m, hp, fun W => ?_⟩
      rcases row_ok H hx hrow with ⟨rfl, rfl, rfl⟩ | ⟨g, o, c, us, rfl, _⟩ <;> simp [Builtin.len_, run_underlying (hT.el t r e hr he), goInt]
    · exact hp.elim
theorem indexAddr_ok (hT : TOk P T) (H : SR n₀ w₀ S₀ S σ s fr a w) {t : TypeId} {x y : Operand} (ho : o.op = .indexAddr t x y) (hp : indexAddrP T t (s.ev x) (s.ev y) s.h (fun v => K (s.put o.dst v))) : Qt P S σ o s a w K := by
  have hx := H.ev x
  have hy := H.ev y
  have hd : ∀ c, o.op ≠ .defer c := fun c hc => by rw [ho] at hc; cases hc
  unfold indexAddrP at hp
  split at hp
  · exact hp.elim
  rename_i r hr
  split at hp
  · exact hp.elim
  rename_i e he
  split at hp
  · exact hp.elim
  rename_i q hq
  split at hp
  · rename_i kk j hj
    rw [hj] at hy
    generalize hu : a.eval y = u at hy
    cases hy with
    | d hy =>
      cases hy
      obtain ⟨h0, hp⟩ := hp
      have run : ∀ {g p m c : Nat}, a.eval x = .slice (some ⟨g, p, none⟩) m c → j < m → ∀ W, (execOp a.eval o).run P W = .ok (.value (.pointer (some ⟨g, p + j.toNat * q.size, none⟩))) W := by
        intro g p m c he' hlt W
        simp [execOp, ho, Instr.indexAt, hu, he', asIntOf, run_underlying (hT.el t r e hr he), h0, hlt, run_size' hT hq, Addr.add_lit]
      have data : ∀ {z m : Nat} {l : List D} {c : Option Nat}, Dr w S (.sl z l m c) (a.eval x) → j < m → K (s.put o.dst (.ep l (j.toNat * q.size))) → Qt P S σ o s a w K := by
        intro z m l c hx hlt hk
        generalize hv : a.eval x = v at hx
        cases hx with
        | nil z c h => omega
        | sl g o' k' us h1 h2 h3 h4 h5 h6 h7 h8 h9 =>
          exact quiet_ok (run hv hlt) (.ep g o' us h5 h6 h7 h8 h9) hk
      split at hp
      · rename_i z l m c hxs
        rw [hxs] at hx
        generalize hv : a.eval x = v at hx
        cases hx with
        | d hx => exact data (by rw [hv]; exact hx) hp.1 (chk_iff.1 hp.2).2
      · rename_i b hxs
        rw [hxs] at hx
        generalize hv : a.eval x = v at hx
        cases hx with
        | bs hx hone =>
          split at hp
          · rename_i e' z m l hb
            obtain ⟨v', us, g1, g2, g3, g4⟩ := H.h.bx b _ hb
            rw [hx] at g1
            cases g1
            obtain ⟨hlt, hp⟩ := hp
            replace hp := (chk_iff.1 hp).2
            rcases g2.2 with ⟨rfl, hm⟩ | ⟨g, cap, cur, rfl, hg, hh, hn, hc, hs, ht⟩
            · omega
            · have := run (p := 0) hv hlt
              rw [Nat.zero_add] at this
              exact quiet_ok this (.pt _ hx rfl) hp
          · rename_i z m l hb
            obtain ⟨v', g1, g2⟩ := H.h.bx b _ hb
            rw [hx] at g1
            cases g1
            exact data (by rw [hv]; exact g2) hp.1 (chk_iff.1 hp.2).2
          · exact hp.elim
      · exact hp.elim
  · exact hp.elim
theorem strIx_ok (hT : TOk P T) (H : SR n₀ w₀ S₀ S σ s fr a w) {t : TypeId} {x y : Operand} (ho : o.op = .index t x y) (hp : match T t with | some r => (match r.kind with | some .string => strIx (s.ev x) (s.ev y) (fun v => K (s.put o.dst v)) | _ => False) | none => False) : Qt P S σ o s a w K := by
  have hx := H.ev x
  have hy := H.ev y
  have hd : ∀ c, o.op ≠ .defer c := fun c hc => by rw [ho] at hc; cases hc
  split at hp
  · rename_i r hr
    split at hp
    case h_2 => exact hp.elim
    rename_i h1
    unfold strIx at hp
    split at hp
    · rename_i b kk j hb hj
      rw [hb] at hx
      rw [hj] at hy
      generalize hv : a.eval x = v at hx
      generalize hu : a.eval y = u at hy
      cases hx with
      | d hx =>
        cases hx
        cases hy with
        | d hy =>
          cases hy
          obtain ⟨h0, hlt, c, hc, hp⟩ := hp
          exact quiet_ok (v := .int .u8 c.toNat) (fun W => by simp [execOp, ho, Instr.index, hu, hv, asIntOf, run_underlying (hT.ks t r _ hr h1), h0, hc]) (.d (.v _)) hp
    · exact hp.elim
  · exact hp.elim
theorem makeFunc_ok (H : SR n₀ w₀ S₀ S σ s fr a w) {p : FuncId} {c : Array Operand} (ho : o.op = .makeFunc (.func p) #[] c) (hp : K (s.put o.dst (.fn p (c.toList.map s.ev)))) : Qt P S σ o s a w K := by
  have hd : ∀ c, o.op ≠ .defer c := fun c hc => by rw [ho] at hc; cases hc
  refine quiet_ok (v := .func (.func p) #[] (c.toList.map a.eval).toArray) (fun W => by simp [execOp, ho, Instr.makeFunc]; apply Array.ext'; simp) (.fn _ (by simp) fun i x u hx hu => ?_) hp
  rw [List.getElem?_map] at hx hu
  cases e : c.toList[i]? with
  | none => rw [e] at hx; cases hx
  | some y => rw [e] at hx hu; cases hx; cases hu; exact H.ev y
theorem make_ok (hT : TOk P T) (hF : Free F) (H : SR n₀ w₀ S₀ S σ s fr a w) {t : TypeId} {x y : Operand} (ho : o.op = .makeSlice t x y) (hp : makeP T t (s.ev x) (s.ev y) s.h s.n (fun v h n => K (({ s with h, n } : St).put o.dst v))) : o.wpIn F k P a w (Gd n₀ w₀ S₀ fr K) Q := by
  have hx := H.ev x
  have hy := H.ev y
  have hd : ∀ c, o.op ≠ .defer c := fun c hc => by rw [ho] at hc; cases hc
  unfold makeP at hp
  split at hp
  · exact hp.elim
  rename_i r hr
  split at hp
  · exact hp.elim
  rename_i e he
  split at hp
  · exact hp.elim
  rename_i q hq
  split at hp
  · rename_i k1 j k2 j' hxj hyj
    rw [hxj] at hx
    rw [hyj] at hy
    generalize hv : a.eval x = v at hx
    generalize hu : a.eval y = u at hy
    cases hx with
    | d hx =>
      cases hx
      cases hy with
      | d hy =>
        cases hy
        obtain ⟨rfl, h0, h1, h2, hp⟩ := hp
        replace hp := chk_iff.1 hp
        obtain ⟨h3, hp⟩ := hp
        have h3 := Nat.eq_of_beq_eq_true h3
        split at hp
        case h_2 => exact hp.elim
        rename_i z h4
        obtain ⟨m, rfl⟩ := Int.eq_ofNat_of_zero_le h0
        obtain ⟨i, z0, g1, g2, g3, g4, g5, g6, g7⟩ := hT.info e q hq
        simp only [Int.toNat_natCast] at h1 h2 hp
        obtain ⟨w', r1, r2, r3⟩ := run_make_full (P := P) w n₀ t e i z0 1 (hT.el t r e hr he) g1 g4 (by rw [g2, h3]) k1 k2 m (by rw [g3]; exact h2) h1 H.h.size
        rw [h4] at g5
        have hz0 : z0.cells = #[z] := by
          apply Array.ext'
          simpa using g5
        have hone : z.oneCell' = true := g7 z (by rw [h4]; simp)
        rw [hz0, Nat.mul_one, toList_madeCells_one] at r2
        refine val_ok hF hd (w' := w') (v := .slice (some ⟨w.heap.size, 0, none⟩) m m) ?_ (H.h.newAr r3 (.inr rfl) r2 (fun u hu => by rw [(List.mem_replicate.1 hu).2]; exact hone) ?_) H.N (by have := H.lon; omega) H.lo H.d (.bs (by simp [updσ]) rfl) hp
        · have r1' := r1
          simp [execOp, ho, hv, hu, r1']
        · refine ⟨by simp, fun i x u hx hu => ?_⟩
          rw [List.getElem?_replicate] at hx hu
          split at hx
          · rename_i hi
            rw [if_pos hi] at hu
            cases hx
            cases hu
            exact .v z
          · cases hx
  · exact hp.elim
theorem range_map_zero (z : Array Value) (n : Nat) (zl : List Value) (h : z.toList = zl) (hn : 0 < z.size) : ((Array.range n).map (fun i => z[i % z.size]!)).toList = (List.range n).map fun i => (zl[i % zl.length]?.getD undef) := by
  subst h
  simp only [Array.toList_map, Array.toList_range]
  apply List.map_congr_left
  intro i _
  have hi : i % z.size < z.size := Nat.mod_lt _ hn
  rw [Array.length_toList, Array.getElem?_toList, Array.getElem?_eq_getElem hi, getElem!_pos z _ hi]
  rfl
theorem dat_al {l : List V} {ds : List D} (hd : allD (l.map fun x => .d (dat h x)) = some ds) : ds = dat.dats h l := by
  induction l generalizing ds with
  | nil => cases hd; rfl
  | cons x l ih =>
    simp only [List.map_cons, allD] at hd
    split at hd
    · rename_i q hq
      cases hd
      rw [ih hq]
      rfl
    · cases hd
theorem buildSlice_ok (hT : TOk P T) (hF : Free F) (H : SR n₀ w₀ S₀ S σ s fr a w) {t : TypeId} {len : Nat} {parts : Array (Nat × Operand)} (ho : o.op = .buildSlice t len parts)
    (hp : buildSliceP T t len (parts.toList.map fun (i, x) => (i, s.ev x)) s.h s.n (fun v h n => K (({ s with h, n } : St).put o.dst v))) : o.wpIn F k P a w (Gd n₀ w₀ S₀ fr K) Q := by
  have hd : ∀ c, o.op ≠ .defer c := fun c hc => by rw [ho] at hc; cases hc
  unfold buildSliceP at hp
  split at hp
  · exact hp.elim
  rename_i r hr
  split at hp
  · exact hp.elim
  rename_i e he
  split at hp
  · exact hp.elim
  rename_i q hq
  replace hp := chk_iff.1 hp
  obtain ⟨hps, hp⟩ := hp
  rw [Bool.and_eq_true] at hps
  obtain ⟨hpos, hsm⟩ := hps
  have hpos : 0 < len * q.size := by rw [Nat.blt_eq] at hpos; exact hpos
  have hsm := Nat.le_of_ble_eq_true hsm
  split at hp
  · rename_i l hl
    split at hp
    · rename_i ds hds
      obtain ⟨i, z, h1, h2, h3, h4, h5, h6, h7⟩ := hT.info e q hq
      have hzp : 0 < q.size := Nat.pos_of_mul_pos_left hpos
      have hzz : z.cells.size = q.size := by rw [← Array.length_toList, h5, h6]
      have hr0 := range_map_zero z.cells (len * q.size) q.zero h5 (by omega)
      have hal : Al (Vr w S σ) ((List.range (len * q.size)).map fun i => .imm (q.zero[i % q.size]?.getD undef)) ((Array.range (len * q.size)).map (z.cells[· % z.cells.size]!)).toList := by
        rw [hr0, h6]
        refine ⟨by simp, fun j x u hx hu => ?_⟩
        rw [List.getElem?_map] at hx hu
        cases e1 : (List.range (len * q.size))[j]? with
        | none => rw [e1] at hx; cases hx
        | some y => rw [e1] at hx hu; cases hx; cases hu; exact .d (.v _)
      have hone : ∀ u, u ∈ ((Array.range (len * q.size)).map (z.cells[· % z.cells.size]!)).toList → u.oneCell' = true := by
        rw [hr0]
        intro u hu
        obtain ⟨i, _, rfl⟩ := List.mem_map.1 hu
        have hi : i % q.zero.length < q.zero.length := Nat.mod_lt _ (by omega)
        rw [List.getElem?_eq_getElem hi]
        exact h7 _ (List.getElem_mem hi)
      obtain ⟨vs', f1, f2, f3⟩ := fill_ok _ (parts.toList.map fun (i, x) => (i, a.eval x)) _ _ l (by simp) (fun j p q hp hq => by
        rw [List.getElem?_map] at hp hq
        cases e : parts.toList[j]? with
        | none => rw [e] at hp; cases hp
        | some y => rw [e] at hp hq; cases hp; cases hq; exact ⟨rfl, H.ev _⟩) hal hone hl
      have hrun := run_buildSlice (P := P) w t e len (parts.map fun (i, x) => (i, a.eval x)) vs' i z (hT.el t r e hr he) h1 h4 (by rw [h2]; omega) (by rw [h2]; omega) (by rw [h2]; simpa using f1)
      obtain ⟨g1, S', g2, g3, g4⟩ := frzs_ok l vs'.toList s.h S H.h f2.len f2.at_
      have hds' := dat_al hds
      subst hds'
      have hsz : vs'.size = len * q.size := by
        have := f2.len
        rw [Array.length_toList] at this
        rw [this]
        have fl : ∀ (place : Nat → Option (Nat × Nat)) (ps : List (Nat × V)) (cs l : List V), fillV place cs ps = some l → l.length = cs.length := by
          intro place ps
          induction ps with
          | nil => intro cs l h; cases h; rfl
          | cons p ps ih =>
            obtain ⟨i, x⟩ := p
            intro cs l h
            unfold fillV at h
            split at h
            · cases h
            · rename_i off size hpl
              split at h
              · cases h
              · rename_i c hc
                cases hb : (Nat.beq c.length size && Nat.ble (off + c.length) cs.length) with
                | false => rw [hb] at h; cases h
                | true =>
                  rw [hb] at h
                  rw [Bool.and_eq_true] at hb
                  have b2 := Nat.le_of_ble_eq_true hb.2
                  rw [ih _ _ h]
                  simp only [putCells, List.length_append, List.length_take, List.length_drop]
                  omega
        rw [fl _ _ _ _ hl]
        simp
      refine val_ok hF hd (v := .slice (some ⟨w.heap.size, 0, none⟩) len len) (by simp [execOp, ho, hrun]) (g2.newAr (World.grownBy_alloc w _ none) (.inr rfl) (World.ownsRow_lit w vs' len g2.size (by simp only [maxLen]; have := Nat.le_mul_of_pos_right len hzp; omega) hsz) f3 ?_) H.N (by have := H.lon; omega) H.lo H.d (.bs (by simp [updσ]) rfl) hp
      exact ⟨by rw [f2.len, dats_len], g4⟩
    · exact hp.elim
  · exact hp.elim
theorem bnd_ok (H : SR n₀ w₀ S₀ S σ s fr a w) {x : Option Operand} {d : Int} {K' : Int → Prop} (hp : bnd (x.map s.ev) d K') : (x = none ∧ K' d) ∨ ∃ y k j, x = some y ∧ a.eval y = .int k j ∧ K' j := by
  cases x with
  | none => exact .inl ⟨rfl, hp⟩
  | some y =>
    have hy := H.ev y
    simp only [Option.map_some, bnd] at hp
    split at hp
    · rename_i j he
      cases he
    · rename_i k j he
      simp only [Option.some.injEq] at he
      rw [he] at hy
      generalize hv : a.eval y = v at hy
      cases hy with
      | d hy => cases hy; exact .inr ⟨y, _, _, rfl, hv, hp⟩
    · exact hp.elim
theorem run_slice_gen {t e : TypeId} {q : Ti} (hT : TOk P T) (hu : P.underlying t = some (.slice e)) (hq : T e = some q) {A : Option Addr} {m cap : Nat} {lo hi mx : Option Value} {i j c : Nat} (hlo : (lo = none ∧ i = 0) ∨ ∃ k, lo = some (.int k i))
    (hhi : (hi = none ∧ j = m) ∨ ∃ k, hi = some (.int k j)) (hmx : (mx = none ∧ c = cap) ∨ ((∃ k, mx = some (.int k c)) ∧ hi.isSome = true)) (h1 : i ≤ j) (h2 : j ≤ c) (h3 : c ≤ cap) (W : World) :
    (Instr.sliceAt t (.slice A m cap) lo hi mx).run P W = .ok (.slice (if c = i then A else A.map (·.add (i * q.size))) (j - i) (c - i)) W := by
  have b1 : ∀ {k : IntKind} {x y : Nat} (code : BoundsCode), x ≤ y → ∀ W, (Instr.sliceBound (.int k (x : Int)) y code).run P W = .ok x W := fun {k x y} code hxy W => by
    rw [run_sliceBound W k (x : Int) y code (by omega) (by omega)]
    simp
  have hz := run_size' (T := T) hT hq
  rcases hlo with ⟨rfl, rfl⟩ | ⟨k1, rfl⟩ <;> rcases hhi with ⟨rfl, rfl⟩ | ⟨k2, rfl⟩ <;> rcases hmx with ⟨rfl, rfl⟩ | ⟨⟨k3, rfl⟩, hmx⟩ <;> first
    | (simp at hmx; done)
    | (simp [Instr.sliceAt, Instr.slice, run_underlying hu, Instr.sliceBounds, b1, hz, h1, h2, h3]; done)
/-- a part of a row -/
theorem Dr.part {z m i j : Nat} {l : List D} {c c' : Option Nat} {v : Value} (hx : Dr w S (.sl z l m c) v) (h1 : i ≤ j) (h2 : j ≤ m) (mx : Option Nat) (hmx : ∀ k, mx = some k → j ≤ k ∧ k ≤ m)
    (hc' : c' = match mx with | some k => some (k - i) | none => c.map (· - i)) :
    ∃ A cap cc, v = .slice A m cap ∧ m ≤ cap ∧ (∀ k, mx = some k → cc = k) ∧ (mx = none → cc = cap) ∧ j ≤ cc ∧ cc ≤ cap ∧ Dr w S (.sl z ((l.drop (i * z)).take ((j - i) * z)) (j - i) c') (.slice (if cc = i then A else A.map (·.add (i * z))) (j - i) (cc - i)) := by
  cases hx with
  | nil z c h =>
    have : i = 0 := by omega
    have : j = 0 := by omega
    subst_vars
    refine ⟨none, 0, 0, rfl, Nat.le_refl _, fun k hk => by have := hmx k hk; omega, fun _ => rfl, Nat.le_refl _, Nat.le_refl _, ?_⟩
    simp only [Nat.sub_self, Nat.zero_mul, List.drop_nil, List.take_zero, if_true]
    refine .nil _ _ fun k hk => ?_
    cases mx with
    | none =>
      cases c with
      | none => cases hk
      | some c => simp at hk; have := h c rfl; omega
    | some k' => simp at hk; have := hmx k' rfl; omega
  | sl g o k us e1 e2 e3 e4 e5 e6 e7 e8 e9 =>
    have hal : Al (Dr w S) l us := ⟨e6, e9⟩
    have hs := hal.sub (i * z) ((j - i) * z)
    have hlen : ((l.drop (i * z)).take ((j - i) * z)).length = (j - i) * z := by
      rw [List.length_take, List.length_drop, e1]
      have a1 : j * z ≤ m * z := Nat.mul_le_mul_right _ h2
      have a2 : (j - i) * z = j * z - i * z := Nat.sub_mul _ _ _
      have a3 : i * z ≤ j * z := Nat.mul_le_mul_right _ h1
      omega
    have key : ∀ (cc : Nat), j ≤ cc → cc ≤ k → (∀ k', c' = some k' → k' = cc - i) → Dr w S (.sl z ((l.drop (i * z)).take ((j - i) * z)) (j - i) c') (.slice (if cc = i then some ⟨g, o, none⟩ else (some ⟨g, o, none⟩ : Option Addr).map (·.add (i * z))) (j - i) (cc - i)) := by
      intro cc hj hk hcc
      have at' : ∀ o', (o' = o + i * z ∨ j - i = 0) → Dr w S (.sl z ((l.drop (i * z)).take ((j - i) * z)) (j - i) c') (.slice (some ⟨g, o', none⟩) (j - i) (cc - i)) := by
        intro o' ho
        refine .sl g o' (cc - i) ((us.drop (i * z)).take ((j - i) * z)) hlen (by omega) (by omega) hcc e5 hs.len (fun n u hu => ?_) (fun u hu => e8 u (List.mem_of_mem_drop (List.mem_of_mem_take hu))) hs.at_
        rw [List.getElem?_take] at hu
        split at hu
        · rename_i hn
          rw [List.getElem?_drop] at hu
          rcases ho with rfl | ho
          · rw [Nat.add_assoc]; exact e7 _ u hu
          · rw [ho, Nat.zero_mul] at hn; omega
        · cases hu
      by_cases hki : cc = i
      · rw [if_pos hki]
        exact at' o (.inr (by omega))
      · rw [if_neg hki, Option.map_some, Addr.add_lit]
        exact at' _ (.inl rfl)
    cases mx with
    | none =>
      refine ⟨some ⟨g, o, none⟩, k, k, rfl, e2, (fun k' hk => by cases hk), (fun _ => rfl), by omega, Nat.le_refl _, key k (by omega) (Nat.le_refl _) fun k' hk' => ?_⟩
      subst hc'
      cases c with
      | none => cases hk'
      | some c => simp at hk'; have := e4 c rfl; omega
    | some k' =>
      have := hmx k' rfl
      refine ⟨some ⟨g, o, none⟩, k, k', rfl, e2, (fun k' hk => by cases hk; rfl), (fun hk => by cases hk), this.1, by omega, key k' this.1 (by omega) fun c hc => ?_⟩
      subst hc'
      simp at hc
      omega
theorem slice_ok (hT : TOk P T) (H : SR n₀ w₀ S₀ S σ s fr a w) {t : TypeId} {x : Operand} {lo hi mx : Option Operand} (ho : o.op = .slice t x lo hi mx)
    (hp : sliceP T t (s.ev x) (lo.map s.ev) (hi.map s.ev) (mx.map s.ev) s.h s.n (fun v h n => K (({ s with h, n } : St).put o.dst v))) : Qt P S σ o s a w K := by
  have hx := H.ev x
  have hd : ∀ c, o.op ≠ .defer c := fun c hc => by rw [ho] at hc; cases hc
  have run : ∀ {v r : Value}, a.eval x = v → (∀ W, (Instr.sliceAt t v (lo.map a.eval) (hi.map a.eval) (mx.map a.eval)).run P W = .ok r W) → ∀ W, (execOp a.eval o).run P W = .ok (.value r) W := by
    intro v r hv h W
    simp [execOp, ho, hv, h W]
  unfold sliceP at hp
  split at hp
  · rename_i b hb
    rw [hb] at hx
    generalize hv : a.eval x = v at hx
    split at hp
    · exact hp.elim
    rename_i r hr
    split at hp
    · rename_i h1
      replace hp := chk_iff.1 hp
      obtain ⟨hm, hp⟩ := hp
      have hmx : mx = none := by cases mx <;> simp at hm ⊢
      have hu := hT.ks t r _ hr h1
      cases hx with
      | d hx =>
        cases hx
        rcases bnd_ok H hp with ⟨hlo, hp⟩ | ⟨y, k1, i, hlo, hy, hp⟩ <;> rcases bnd_ok H hp with ⟨hhi, hp⟩ | ⟨y', k2, j, hhi, hy', hp⟩ <;> obtain ⟨e0, e1, e2, hp⟩ := hp <;> rw [hmx, hlo, hhi] at run <;> refine quiet_ok (run hv ?_) (.d (.v _)) hp <;> intro W
        · simp [Instr.sliceAt, Instr.slice, run_underlying hu, Instr.sliceBounds]
        · simp [hy', Instr.sliceAt, Instr.slice, run_underlying hu, Instr.sliceBounds, run_sliceBound, e1, e2]
        · simp [hy, Instr.sliceAt, Instr.slice, run_underlying hu, Instr.sliceBounds, run_sliceBound, e0, e1]
        · have e3 : 0 ≤ j := Int.le_trans e0 e1
          have e4 : i ≤ (j.toNat : Int) := by omega
          simp [hy, hy', Instr.sliceAt, Instr.slice, run_underlying hu, Instr.sliceBounds, run_sliceBound, e0, e2, e3, run_sliceBound W k1 i j.toNat BoundsCode.sliceB e0 e4]
    · exact hp.elim
  · split at hp
    · exact hp.elim
    rename_i r hr
    split at hp
    · exact hp.elim
    rename_i e he
    split at hp
    · exact hp.elim
    rename_i q hq
    have hu := hT.el t r e hr he
    have key : ∀ {i : Int}, ((lo = none ∧ i = 0) ∨ ∃ y k, lo = some y ∧ a.eval y = .int k i) → (match s.ev x with
          | .d (.sl z l m c) => bnd (hi.map s.ev) m fun j => 0 ≤ i ∧ i ≤ j ∧ j ≤ m ∧ chk (Nat.beq z q.size) (match mx.map s.ev with
            | none => K (({ s with h := s.h, n := s.n } : St).put o.dst (.d (.sl z ((l.drop (i.toNat * z)).take ((j.toNat - i.toNat) * z)) (j.toNat - i.toNat) (c.map (· - i.toNat)))))
            | some (.d (.v (.int _ k))) => chk (hi.map s.ev).isSome <| j ≤ k ∧ k ≤ m ∧ K (({ s with h := s.h, n := s.n } : St).put o.dst (.d (.sl z ((l.drop (i.toNat * z)).take ((j.toNat - i.toNat) * z)) (j.toNat - i.toNat) (some (k.toNat - i.toNat)))))
            | _ => False)
          | _ => False) → Qt P S σ o s a w K := by
      intro i hlo hp
      split at hp
      · rename_i z l m c hxs
        rw [hxs] at hx
        generalize hv : a.eval x = v at hx
        cases hx with
        | d hx =>
          have fin : ∀ {j : Int}, ((hi = none ∧ j = m) ∨ ∃ y k, hi = some y ∧ a.eval y = .int k j) → (0 ≤ i ∧ i ≤ j ∧ j ≤ m ∧ chk (Nat.beq z q.size) (match mx.map s.ev with
            | none => K (({ s with h := s.h, n := s.n } : St).put o.dst (.d (.sl z ((l.drop (i.toNat * z)).take ((j.toNat - i.toNat) * z)) (j.toNat - i.toNat) (c.map (· - i.toNat)))))
            | some (.d (.v (.int _ k))) => chk (hi.map s.ev).isSome <| j ≤ k ∧ k ≤ m ∧ K (({ s with h := s.h, n := s.n } : St).put o.dst (.d (.sl z ((l.drop (i.toNat * z)).take ((j.toNat - i.toNat) * z)) (j.toNat - i.toNat) (some (k.toNat - i.toNat)))))
            | _ => False)) → Qt P S σ o s a w K := by
            intro j hhi hp
            obtain ⟨p0, p1, p2, hp⟩ := hp
            replace hp := chk_iff.1 hp
            obtain ⟨hz, hp⟩ := hp
            have hz := Nat.eq_of_beq_eq_true hz
            obtain ⟨i, rfl⟩ := Int.eq_ofNat_of_zero_le p0
            obtain ⟨j, rfl⟩ := Int.eq_ofNat_of_zero_le (Int.le_trans p0 p1)
            simp only [Int.toNat_natCast] at hp
            have hlo' : (lo.map a.eval = none ∧ i = 0) ∨ ∃ k, lo.map a.eval = some (.int k (i : Int)) := by
              rcases hlo with ⟨h1, h2⟩ | ⟨y, k, h1, h2⟩
              · exact .inl ⟨by rw [h1]; rfl, by omega⟩
              · exact .inr ⟨k, by rw [h1, Option.map_some, h2]⟩
            have hhi' : (hi.map a.eval = none ∧ j = m) ∨ ∃ k, hi.map a.eval = some (.int k (j : Int)) := by
              rcases hhi with ⟨h1, h2⟩ | ⟨y, k, h1, h2⟩
              · exact .inl ⟨by rw [h1]; rfl, by omega⟩
              · exact .inr ⟨k, by rw [h1, Option.map_some, h2]⟩
            cases hmx : mx with
            | none =>
              rw [hmx] at hp
              obtain ⟨A, cap, cc, rfl, g1, g2, g3, g4, g5, g6⟩ := hx.part (i := i) (j := j) (by omega) (by omega) none (fun k hk => by cases hk) rfl
              refine quiet_ok (run hv ?_) (.d g6) hp
              intro W
              subst hz
              exact run_slice_gen hT hu hq hlo' hhi' (.inl ⟨by rw [hmx]; rfl, g3 rfl⟩) (by omega) g4 g5 W
            | some y =>
              rw [hmx] at hp
              simp only [Option.map_some] at hp
              have hy := H.ev y
              split at hp
              · rename_i he; cases he
              · rename_i k3 k' he
                simp only [Option.some.injEq] at he
                rw [he] at hy
                generalize hv3 : a.eval y = v3 at hy
                cases hy with
                | d hy =>
                  cases hy
                  replace hp := chk_iff.1 hp
                  obtain ⟨his, b1, b2, hp⟩ := hp
                  obtain ⟨k', rfl⟩ := Int.eq_ofNat_of_zero_le (Int.le_trans (Int.le_trans p0 p1) b1)
                  simp only [Int.toNat_natCast] at hp
                  obtain ⟨A, cap, cc, rfl, g1, g2, g3, g4, g5, g6⟩ := hx.part (i := i) (j := j) (by omega) (by omega) (some k') (fun k hk => by cases hk; omega) rfl
                  refine quiet_ok (run hv ?_) (.d g6) hp
                  intro W
                  subst hz
                  exact run_slice_gen hT hu hq hlo' hhi' (.inr ⟨⟨_, by rw [hmx, Option.map_some, hv3, g2 k' rfl]⟩, by cases hi <;> simp at his ⊢⟩) (by omega) g4 g5 W
              · exact hp.elim
          rcases bnd_ok H hp with ⟨hhi, hp⟩ | ⟨y', k2, j, hhi, hy', hp⟩
          · exact fin (.inl ⟨hhi, rfl⟩) hp
          · exact fin (.inr ⟨y', k2, hhi, hy'⟩) hp
      · exact hp.elim
    rcases bnd_ok H hp with ⟨hlo, hp⟩ | ⟨y, k1, i, hlo, hy, hp⟩
    · exact key (.inl ⟨hlo, rfl⟩) hp
    · exact key (.inr ⟨y, k1, hlo, hy⟩) hp
end
end Go.Proofs.YtcpaajecppplhaaGreatDoor.Am
end
