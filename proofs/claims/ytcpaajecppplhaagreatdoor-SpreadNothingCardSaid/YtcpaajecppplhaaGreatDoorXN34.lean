/- What the law leans on, part 35: declarations of several texts of ours, in their order. -/
import Derived.Test.YtcpaajecppplhaaGreatDoorXN15
import Derived.Test.YtcpaajecppplhaaGreatDoorXN33
import Derived.Test.YtcpaajecppplhaaGreatDoorXN32
import Derived.Carry
section
/- scalar.Dyad and scalar.Monad: the map of functions that each call makes, the look-up of the sign, and the call of what was found; strings.Contains of one letter. -/
namespace Go.Proofs.YtcpaajecppplhaaGreatDoor.Hd
open Go.RowKit Go.Proofs.YtcpaajecppplhaaGreatDoorW.PrintWords Go.Proofs.YtcpaajecppplhaaGreatDoorW.PrintLast Go.Proofs.YtcpaajecppplhaaGreatDoorW.PrintMore Go.Proofs.YtcpaajecppplhaaGreatDoor.B Go.ChangeMaps Go.MapKept Go.Shelf Go.Proofs.YtcpaajecppplhaaGreatDoor.Hm Go.Proofs.YtcpaajecppplhaaGreatDoor
set_option linter.unusedVariables false
set_option linter.unusedSimpArgs false
section
variable {P : Program} {ops : Array Oper} {Q : Exit → Act → World → Prop}
theorem eqF1' (d : Nat) {t : TypeId} {ps rs : Array TypeId} {v : Bool} (h : P.underlying t = some (.func ps rs v)) (W : World) : (Op.equalIn (d + 1) t .nilFunc .nilFunc).run P W = .ok true W := by simp [Op.equalIn, run_underlying h]
theorem eqF1 {t : TypeId} {ps rs : Array TypeId} {v : Bool} (h : P.underlying t = some (.func ps rs v)) (W : World) : (binOp .eql t .nilFunc .nilFunc).run P W = .ok (.bool true) W := by
  simp only [binOp]
  simp [show Op.equal t .nilFunc .nilFunc = Op.equalIn (9999 + 1) t .nilFunc .nilFunc from rfl, eqF1' 9999 h W]
theorem eqF2' (d : Nat) {t : TypeId} {ps rs : Array TypeId} {v : Bool} (h : P.underlying t = some (.func ps rs v)) (g : Fn) (x y : Array Value) (W : World) : (Op.equalIn (d + 1) t (.func g x y) .nilFunc).run P W = .ok false W := by simp [Op.equalIn, run_underlying h]
theorem eqF2 {t : TypeId} {ps rs : Array TypeId} {v : Bool} (h : P.underlying t = some (.func ps rs v)) (g : Fn) (x y : Array Value) (W : World) : (binOp .eql t (.func g x y) .nilFunc).run P W = .ok (.bool false) W := by
  simp only [binOp]
  simp [show Op.equal t (.func g x y) .nilFunc = Op.equalIn (9999 + 1) t (.func g x y) .nilFunc from rfl, eqF2' 9999 h g x y W]
end
theorem ba_eq {s : ByteArray} {l : List UInt8} (h : s.toList = l) : s = ⟨l.toArray⟩ := by
  rw [Nm.ba_of s, Nm.ba_list] at h
  rw [Nm.ba_of s, h, Nm.BA]
/-! ### strings.Contains of one letter -/
def contains.f (a0 a1 : ByteArray) : Option Bool := if a1.toList.length = 1 then some (decide (0 ≤ Lib.indexByte a0.data.toList (a1.toList.headD 0))) else none
theorem contains.calls (a0 a1 : ByteArray) (r : Bool) (w : World) (h : contains.f a0 a1 = some r) :
    Calls Tryz.prog 136 #[.string a0, .string a1] w fun e w' => e = .returned (.bool r) ∧ Drawn0 w w' := by
  unfold contains.f at h
  split at h
  · rename_i hl
    obtain ⟨c, hc⟩ := List.length_eq_one_iff.1 hl
    rw [hc] at h
    cases h
    rw [ba_eq hc]
    exact (Tryz.strings_Contains_one a0 c w).mono (fun e w' h => ⟨h.1, 0, h.2⟩)
  · cases h
/-! ### scalar.Dyad -/
def EDyad : List (ByteArray × Value) := [(⟨#[43]⟩, (.func (.func 93) #[] #[])), (⟨#[45]⟩, (.func (.func 94) #[] #[])), (⟨#[42]⟩, (.func (.func 95) #[] #[])), (⟨#[37]⟩, (.func (.func 96) #[] #[])), (⟨#[33]⟩, (.func (.func 97) #[] #[])), (⟨#[38]⟩, (.func (.func 98) #[] #[])), (⟨#[124]⟩, (.func (.func 101) #[] #[])), (⟨#[60]⟩, (.func (.func 102) #[] #[])), (⟨#[62]⟩, (.func (.func 104) #[] #[])), (⟨#[61]⟩, (.func (.func 105) #[] #[])), (⟨#[126]⟩, (.func (.func 106) #[] #[]))]
theorem Dyad_stores (w : World) : ∃ w1 w2 w3 w4 w5 w6 w7 w8 w9 w10 w11 : World, (Instr.mapUpdate 126 (.map (some w.heap.size)) (.string ⟨#[43]⟩) (.func (.func 93) #[] #[])).run Tryz.prog (w.alloc (.map #[] 0)) = .ok () w1 ∧ (Instr.mapUpdate 126 (.map (some w.heap.size)) (.string ⟨#[45]⟩) (.func (.func 94) #[] #[])).run Tryz.prog w1 = .ok () w2 ∧ (Instr.mapUpdate 126 (.map (some w.heap.size)) (.string ⟨#[42]⟩) (.func (.func 95) #[] #[])).run Tryz.prog w2 = .ok () w3 ∧ (Instr.mapUpdate 126 (.map (some w.heap.size)) (.string ⟨#[37]⟩) (.func (.func 96) #[] #[])).run Tryz.prog w3 = .ok () w4 ∧ (Instr.mapUpdate 126 (.map (some w.heap.size)) (.string ⟨#[33]⟩) (.func (.func 97) #[] #[])).run Tryz.prog w4 = .ok () w5 ∧ (Instr.mapUpdate 126 (.map (some w.heap.size)) (.string ⟨#[38]⟩) (.func (.func 98) #[] #[])).run Tryz.prog w5 = .ok () w6 ∧ (Instr.mapUpdate 126 (.map (some w.heap.size)) (.string ⟨#[124]⟩) (.func (.func 101) #[] #[])).run Tryz.prog w6 = .ok () w7 ∧ (Instr.mapUpdate 126 (.map (some w.heap.size)) (.string ⟨#[60]⟩) (.func (.func 102) #[] #[])).run Tryz.prog w7 = .ok () w8 ∧ (Instr.mapUpdate 126 (.map (some w.heap.size)) (.string ⟨#[62]⟩) (.func (.func 104) #[] #[])).run Tryz.prog w8 = .ok () w9 ∧ (Instr.mapUpdate 126 (.map (some w.heap.size)) (.string ⟨#[61]⟩) (.func (.func 105) #[] #[])).run Tryz.prog w9 = .ok () w10 ∧ (Instr.mapUpdate 126 (.map (some w.heap.size)) (.string ⟨#[126]⟩) (.func (.func 106) #[] #[])).run Tryz.prog w10 = .ok () w11 ∧ MS w11 w.heap.size EDyad ∧ Below w.heap.size w w11 := by
  have ht := Tryz.underlying126
  have hk := Tryz.underlying9
  have m0 := ms_made w
  have b0 : Below w.heap.size w (w.alloc (.map #[] 0)) := (Below.refl _ w).alloc (Nat.le_refl _) _
  obtain ⟨w1, r1, m1, c1⟩ := ms_store (P := Tryz.prog) m0 ht hk ⟨#[43]⟩ (.func (.func 93) #[] #[]) (by decide)
  have b1 := b0.trans (c1 _ (Nat.le_refl _))
  obtain ⟨w2, r2, m2, c2⟩ := ms_store (P := Tryz.prog) m1 ht hk ⟨#[45]⟩ (.func (.func 94) #[] #[]) (by decide)
  have b2 := b1.trans (c2 _ (Nat.le_refl _))
  obtain ⟨w3, r3, m3, c3⟩ := ms_store (P := Tryz.prog) m2 ht hk ⟨#[42]⟩ (.func (.func 95) #[] #[]) (by decide)
  have b3 := b2.trans (c3 _ (Nat.le_refl _))
  obtain ⟨w4, r4, m4, c4⟩ := ms_store (P := Tryz.prog) m3 ht hk ⟨#[37]⟩ (.func (.func 96) #[] #[]) (by decide)
  have b4 := b3.trans (c4 _ (Nat.le_refl _))
  obtain ⟨w5, r5, m5, c5⟩ := ms_store (P := Tryz.prog) m4 ht hk ⟨#[33]⟩ (.func (.func 97) #[] #[]) (by decide)
  have b5 := b4.trans (c5 _ (Nat.le_refl _))
  obtain ⟨w6, r6, m6, c6⟩ := ms_store (P := Tryz.prog) m5 ht hk ⟨#[38]⟩ (.func (.func 98) #[] #[]) (by decide)
  have b6 := b5.trans (c6 _ (Nat.le_refl _))
  obtain ⟨w7, r7, m7, c7⟩ := ms_store (P := Tryz.prog) m6 ht hk ⟨#[124]⟩ (.func (.func 101) #[] #[]) (by decide)
  have b7 := b6.trans (c7 _ (Nat.le_refl _))
  obtain ⟨w8, r8, m8, c8⟩ := ms_store (P := Tryz.prog) m7 ht hk ⟨#[60]⟩ (.func (.func 102) #[] #[]) (by decide)
  have b8 := b7.trans (c8 _ (Nat.le_refl _))
  obtain ⟨w9, r9, m9, c9⟩ := ms_store (P := Tryz.prog) m8 ht hk ⟨#[62]⟩ (.func (.func 104) #[] #[]) (by decide)
  have b9 := b8.trans (c9 _ (Nat.le_refl _))
  obtain ⟨w10, r10, m10, c10⟩ := ms_store (P := Tryz.prog) m9 ht hk ⟨#[61]⟩ (.func (.func 105) #[] #[]) (by decide)
  have b10 := b9.trans (c10 _ (Nat.le_refl _))
  obtain ⟨w11, r11, m11, c11⟩ := ms_store (P := Tryz.prog) m10 ht hk ⟨#[126]⟩ (.func (.func 106) #[] #[]) (by decide)
  have b11 := b10.trans (c11 _ (Nat.le_refl _))
  exact ⟨w1, w2, w3, w4, w5, w6, w7, w8, w9, w10, w11, r1, r2, r3, r4, r5, r6, r7, r8, r9, r10, r11, m11, b11⟩
theorem zv114 (w : World) : (zeroValue 114).run Tryz.prog w = .ok .nilFunc w := by
  have h : Tryz.t114.zero = some .nilFunc := by kernel_rfl
  unfold zeroValue
  simp [run_underlying Tryz.underlying114, Result.andThen, h]
set_option maxHeartbeats 4000000 in
set_option maxRecDepth 100000 in
theorem Dyad_none (op a b : ByteArray) (w : World) (hl : at_ EDyad op = none) :
    Calls Tryz.prog 42 #[.string op, .string a, .string b] w fun e w' => e = .returned (.tuple #[.string ⟨#[]⟩, .int .i64 1]) ∧ Below w.heap.size w w' := by
  have HB := Aside0.mk (Below.refl w.heap.size w)
  obtain ⟨w1, w2, w3, w4, w5, w6, w7, w8, w9, w10, w11, r1, r2, r3, r4, r5, r6, r7, r8, r9, r10, r11, mN, bN⟩ := Dyad_stores w
  have hz : (zeroValue 114).run Tryz.prog w11 = .ok .nilFunc w11 := zv114 w11
  have hlook := ms_look (P := Tryz.prog) mN Tryz.underlying126 Tryz.underlying9 hz op
  rw [hl] at hlook
  have HN := Aside0.mk bN
  clear mN bN hz
  have hmm := run_makeMap (P := Tryz.prog) 126
  have hq1 := eqF1 Tryz.underlying114
  have hq2 := eqF2 Tryz.underlying114
  simp only [Option.getD_none] at hlook
  go_enter Tryz.func42, Tryz.ntmps42
  go_wp2
  go_ret2
  exact ⟨rfl, HN.out⟩
set_option maxHeartbeats 4000000 in
set_option maxRecDepth 100000 in
theorem Dyad_not (n : Nat) (op a b : ByteArray) (w : World) (hl : at_ EDyad op = some (.func (.func n) #[] #[])) (hm : K.num_May.f a = some false ∨ K.num_May.f a = some true ∧ K.num_May.f b = some false) :
    Calls Tryz.prog 42 #[.string op, .string a, .string b] w fun e w' => e = .returned (.tuple #[.string ⟨#[]⟩, .int .i64 1]) ∧ Below w.heap.size w w' := by
  have HB := Aside0.mk (Below.refl w.heap.size w)
  obtain ⟨w1, w2, w3, w4, w5, w6, w7, w8, w9, w10, w11, r1, r2, r3, r4, r5, r6, r7, r8, r9, r10, r11, mN, bN⟩ := Dyad_stores w
  have hz : (zeroValue 114).run Tryz.prog w11 = .ok .nilFunc w11 := zv114 w11
  have hlook := ms_look (P := Tryz.prog) mN Tryz.underlying126 Tryz.underlying9 hz op
  rw [hl] at hlook
  have HN := Aside0.mk bN
  clear mN bN hz
  have hmm := run_makeMap (P := Tryz.prog) 126
  have hq1 := eqF1 Tryz.underlying114
  have hq2 := eqF2 Tryz.underlying114
  simp only [Option.getD_some] at hlook
  rcases hm with hm | ⟨hm, hm2⟩
  · have HM := Aside0.mk hm
    clear hm
    go_enter Tryz.func42, Tryz.ntmps42
    go_wp2_with (go_at_call 70; (with_reducible refine (K.num_May.calls a false _ HM.out).mono ?_); rintro e Wa ⟨rfl, hba0⟩; have hba := Aside0.mk hba0; clear hba0)
    go_ret2
    exact ⟨rfl, HN.out.trans (hba.out.mono HN.out.size)⟩
  · have HM := Aside0.mk hm
    have HM2 := Aside0.mk hm2
    clear hm hm2
    go_enter Tryz.func42, Tryz.ntmps42
    go_wp2_with (first | (go_at_call 70; (with_reducible refine (K.num_May.calls a true _ HM.out).mono ?_); rintro e Wa ⟨rfl, hba0⟩; have hba := Aside0.mk hba0; clear hba0) | (go_at_call 70; (with_reducible refine (K.num_May.calls b false _ HM2.out).mono ?_); rintro e Wb ⟨rfl, hbb0⟩; have hbb := Aside0.mk hbb0; clear hbb0))
    go_ret2
    exact ⟨rfl, (HN.out.trans (hba.out.mono HN.out.size)).trans (hbb.out.mono (Nat.le_trans HN.out.size hba.out.size))⟩
set_option maxHeartbeats 4000000 in
set_option maxRecDepth 100000 in
theorem Dyad_does {n : Nat} {fn : Func} (hf : Tryz.prog.funcs[n]? = some fn) (hname : (fn.name == "runtime.NumGoroutine") = false) (hbd : fn.body.isSome = true) (op a b r1 : ByteArray) (r2 : Int) (w : World) (hG : Hd.GL w) (hl : at_ EDyad op = some (.func (.func n) #[] #[]))
    (hm : K.num_May.f a = some true) (hm2 : K.num_May.f b = some true) (hC : ∀ W, Hd.GL W → Calls Tryz.prog n #[.string a, .string b] W fun e w' => e = .returned (.tuple #[.string r1, .int .i64 r2]) ∧ Below W.heap.size W w') :
    Calls Tryz.prog 42 #[.string op, .string a, .string b] w fun e w' => e = .returned (.tuple #[.string r1, .int .i64 r2]) ∧ Below w.heap.size w w' := by
  have HB := Aside0.mk (Below.refl w.heap.size w)
  obtain ⟨w1, w2, w3, w4, w5, w6, w7, w8, w9, w10, w11, r1, r2, r3, r4, r5, r6, r7, r8, r9, r10, r11, mN, bN⟩ := Dyad_stores w
  have hz : (zeroValue 114).run Tryz.prog w11 = .ok .nilFunc w11 := zv114 w11
  have hlook := ms_look (P := Tryz.prog) mN Tryz.underlying126 Tryz.underlying9 hz op
  rw [hl] at hlook
  have HN := Aside0.mk bN
  clear mN bN hz
  have hmm := run_makeMap (P := Tryz.prog) 126
  have hq1 := eqF1 Tryz.underlying114
  have hq2 := eqF2 Tryz.underlying114
  simp only [Option.getD_some] at hlook
  have HGL := Aside0.mk hG
  have HF := Aside0.mk (And.intro hf (And.intro hname hbd))
  have HC := Aside0.mk hC
  have hent := fun (xs : Array Value) (W : World) => enters_ hf hname hbd xs W
  have HM := Aside0.mk hm
  clear hm hf hname hbd hC hG
  have HM2 := Aside0.mk hm2
  clear hm2
  go_enter Tryz.func42, Tryz.ntmps42
  go_wp2_with (first | (go_at_call 70; (with_reducible refine (K.num_May.calls a true _ HM.out).mono ?_); rintro e Wa ⟨rfl, hba0⟩; have hba := Aside0.mk hba0; clear hba0) | (go_at_call 70; (with_reducible refine (K.num_May.calls b true _ HM2.out).mono ?_); rintro e Wb ⟨rfl, hbb0⟩; have hbb := Aside0.mk hbb0; clear hbb0) | ((with_reducible refine (HC.out Wb (Hd.GL.below HGL.out ((HN.out.trans (hba.out.mono HN.out.size)).trans (hbb.out.mono (Nat.le_trans HN.out.size hba.out.size))))).mono ?_); rintro e W9 ⟨rfl, hb90⟩; have hb9 := Aside0.mk hb90; clear hb90))
  go_ret2
  exact ⟨rfl, ((HN.out.trans (hba.out.mono HN.out.size)).trans (hbb.out.mono (Nat.le_trans HN.out.size hba.out.size))).trans (hb9.out.mono ((HN.out.trans (hba.out.mono HN.out.size)).trans (hbb.out.mono (Nat.le_trans HN.out.size hba.out.size))).size)⟩
/-- which sign it is, from 1 on; 0: none -/
def sgDyad (op : ByteArray) : Nat := if op.toList = ([43] : List UInt8) then 1 else if op.toList = ([45] : List UInt8) then 2 else if op.toList = ([42] : List UInt8) then 3 else if op.toList = ([37] : List UInt8) then 4 else if op.toList = ([33] : List UInt8) then 5 else if op.toList = ([38] : List UInt8) then 6 else if op.toList = ([124] : List UInt8) then 7 else if op.toList = ([60] : List UInt8) then 8 else if op.toList = ([62] : List UInt8) then 9 else if op.toList = ([61] : List UInt8) then 10 else if op.toList = ([126] : List UInt8) then 11 else 0
def doesDyad (i k : Nat) (a b : ByteArray) : Option (ByteArray × Int) :=
  match i with
  | 1 => L.num_Add.f k a b
  | 2 => L.num_Sub.f k a b
  | 3 => L.num_Mul.f k a b
  | 4 => M.num_Div.f k a b
  | 5 => M.num_Mod.f k a b
  | 6 => SC.scalar_Dyad_1.f k a b
  | 7 => SC.scalar_Dyad_2.f k a b
  | 8 => SC.scalar_Dyad_3.f k a b
  | 9 => SC.scalar_Dyad_4.f k a b
  | 10 => SC.scalar_Dyad_5.f a b
  | 11 => SC.scalar_Dyad_6.f a b
  | _ => none
def scalarDyad.f (k : Nat) (op a b : ByteArray) : Option (ByteArray × Int) :=
  if sgDyad op = 0 then some (⟨#[]⟩, 1) else (K.num_May.f a).bind fun m => (K.num_May.f b).bind fun n => if m = true then (if n = true then doesDyad (sgDyad op) k a b else some (⟨#[]⟩, 1)) else some (⟨#[]⟩, 1)
/-- the sign, and what stands at it -/
theorem sgDyad_or (op : ByteArray) : (sgDyad op = 0 ∧ at_ EDyad op = none) ∨ (op = ⟨#[43]⟩ ∧ sgDyad op = 1) ∨ (op = ⟨#[45]⟩ ∧ sgDyad op = 2) ∨ (op = ⟨#[42]⟩ ∧ sgDyad op = 3) ∨ (op = ⟨#[37]⟩ ∧ sgDyad op = 4) ∨ (op = ⟨#[33]⟩ ∧ sgDyad op = 5) ∨ (op = ⟨#[38]⟩ ∧ sgDyad op = 6) ∨ (op = ⟨#[124]⟩ ∧ sgDyad op = 7) ∨ (op = ⟨#[60]⟩ ∧ sgDyad op = 8) ∨ (op = ⟨#[62]⟩ ∧ sgDyad op = 9) ∨ (op = ⟨#[61]⟩ ∧ sgDyad op = 10) ∨ (op = ⟨#[126]⟩ ∧ sgDyad op = 11) := by
  by_cases h0 : op.toList = ([43] : List UInt8)
  · exact Or.inr (Or.inl ⟨ba_eq h0, by simp [sgDyad, h0]⟩)
  by_cases h1 : op.toList = ([45] : List UInt8)
  · exact Or.inr (Or.inr (Or.inl ⟨ba_eq h1, by simp [sgDyad, h1]⟩))
  by_cases h2 : op.toList = ([42] : List UInt8)
  · exact Or.inr (Or.inr (Or.inr (Or.inl ⟨ba_eq h2, by simp [sgDyad, h2]⟩)))
  by_cases h3 : op.toList = ([37] : List UInt8)
  · exact Or.inr (Or.inr (Or.inr (Or.inr (Or.inl ⟨ba_eq h3, by simp [sgDyad, h3]⟩))))
  by_cases h4 : op.toList = ([33] : List UInt8)
  · exact Or.inr (Or.inr (Or.inr (Or.inr (Or.inr (Or.inl ⟨ba_eq h4, by simp [sgDyad, h4]⟩)))))
  by_cases h5 : op.toList = ([38] : List UInt8)
  · exact Or.inr (Or.inr (Or.inr (Or.inr (Or.inr (Or.inr (Or.inl ⟨ba_eq h5, by simp [sgDyad, h5]⟩))))))
  by_cases h6 : op.toList = ([124] : List UInt8)
  · exact Or.inr (Or.inr (Or.inr (Or.inr (Or.inr (Or.inr (Or.inr (Or.inl ⟨ba_eq h6, by simp [sgDyad, h6]⟩)))))))
  by_cases h7 : op.toList = ([60] : List UInt8)
  · exact Or.inr (Or.inr (Or.inr (Or.inr (Or.inr (Or.inr (Or.inr (Or.inr (Or.inl ⟨ba_eq h7, by simp [sgDyad, h7]⟩))))))))
  by_cases h8 : op.toList = ([62] : List UInt8)
  · exact Or.inr (Or.inr (Or.inr (Or.inr (Or.inr (Or.inr (Or.inr (Or.inr (Or.inr (Or.inl ⟨ba_eq h8, by simp [sgDyad, h8]⟩)))))))))
  by_cases h9 : op.toList = ([61] : List UInt8)
  · exact Or.inr (Or.inr (Or.inr (Or.inr (Or.inr (Or.inr (Or.inr (Or.inr (Or.inr (Or.inr (Or.inl ⟨ba_eq h9, by simp [sgDyad, h9]⟩))))))))))
  by_cases h10 : op.toList = ([126] : List UInt8)
  · exact Or.inr (Or.inr (Or.inr (Or.inr (Or.inr (Or.inr (Or.inr (Or.inr (Or.inr (Or.inr (Or.inr (⟨ba_eq h10, by simp [sgDyad, h10]⟩)))))))))))
  have ne : ∀ (c : UInt8), op.toList ≠ [c] → (op == (⟨#[c]⟩ : ByteArray)) = false := fun c h => by
    apply Bool.eq_false_iff.2
    intro e
    have e' : (op.data == (#[c] : Array UInt8)) = true := e
    have e2 : op = ⟨#[c]⟩ := by cases op; simp at e'; rw [e']
    exact h (by rw [e2]; exact Nm.ba_list [c])
  exact Or.inl ⟨by simp [sgDyad, h0, h1, h2, h3, h4, h5, h6, h7, h8, h9, h10], by simp [at_, EDyad, List.find?_cons, ne _ h0, ne _ h1, ne _ h2, ne _ h3, ne _ h4, ne _ h5, ne _ h6, ne _ h7, ne _ h8, ne _ h9, ne _ h10]⟩
set_option maxHeartbeats 1000000 in
theorem scalarDyad.calls (k : Nat) (op a b r1 : ByteArray) (r2 : Int) (w : World) (hG : Hd.GL w) (h : scalarDyad.f k op a b = some (r1, r2)) :
    Calls Tryz.prog 42 #[.string op, .string a, .string b] w fun e w' => e = .returned (.tuple #[.string r1, .int .i64 r2]) ∧ Below w.heap.size w w' := by
  unfold scalarDyad.f at h
  rcases sgDyad_or op with ⟨h0, hl⟩ | ⟨rfl, h0⟩ | ⟨rfl, h0⟩ | ⟨rfl, h0⟩ | ⟨rfl, h0⟩ | ⟨rfl, h0⟩ | ⟨rfl, h0⟩ | ⟨rfl, h0⟩ | ⟨rfl, h0⟩ | ⟨rfl, h0⟩ | ⟨rfl, h0⟩ | ⟨rfl, h0⟩
  · rw [if_pos h0] at h
    cases h
    exact Dyad_none op a b w hl
  · rw [if_neg (by rw [h0]; decide), h0] at h
    obtain ⟨m, hm, h⟩ := Option.bind_eq_some_iff.mp h
    obtain ⟨n, hn, h⟩ := Option.bind_eq_some_iff.mp h
    cases m
    · cases h
      exact Dyad_not 93 _ a b w rfl (Or.inl hm)
    · cases n
      · cases h
        exact Dyad_not 93 _ a b w rfl (Or.inr ⟨hm, hn⟩)
      · exact Dyad_does Tryz.func93 (by kernel_rfl) rfl _ a b r1 r2 w hG rfl hm hn (fun W hW => (L.num_Add.calls k a b _ _ W hW h))
  · rw [if_neg (by rw [h0]; decide), h0] at h
    obtain ⟨m, hm, h⟩ := Option.bind_eq_some_iff.mp h
    obtain ⟨n, hn, h⟩ := Option.bind_eq_some_iff.mp h
    cases m
    · cases h
      exact Dyad_not 94 _ a b w rfl (Or.inl hm)
    · cases n
      · cases h
        exact Dyad_not 94 _ a b w rfl (Or.inr ⟨hm, hn⟩)
      · exact Dyad_does Tryz.func94 (by kernel_rfl) rfl _ a b r1 r2 w hG rfl hm hn (fun W hW => (L.num_Sub.calls k a b _ _ W hW h))
  · rw [if_neg (by rw [h0]; decide), h0] at h
    obtain ⟨m, hm, h⟩ := Option.bind_eq_some_iff.mp h
    obtain ⟨n, hn, h⟩ := Option.bind_eq_some_iff.mp h
    cases m
    · cases h
      exact Dyad_not 95 _ a b w rfl (Or.inl hm)
    · cases n
      · cases h
        exact Dyad_not 95 _ a b w rfl (Or.inr ⟨hm, hn⟩)
      · exact Dyad_does Tryz.func95 (by kernel_rfl) rfl _ a b r1 r2 w hG rfl hm hn (fun W hW => (L.num_Mul.calls k a b _ _ W hW h))
  · rw [if_neg (by rw [h0]; decide), h0] at h
    obtain ⟨m, hm, h⟩ := Option.bind_eq_some_iff.mp h
    obtain ⟨n, hn, h⟩ := Option.bind_eq_some_iff.mp h
    cases m
    · cases h
      exact Dyad_not 96 _ a b w rfl (Or.inl hm)
    · cases n
      · cases h
        exact Dyad_not 96 _ a b w rfl (Or.inr ⟨hm, hn⟩)
      · exact Dyad_does Tryz.func96 (by kernel_rfl) rfl _ a b r1 r2 w hG rfl hm hn (fun W hW => (M.num_Div.calls k a b _ _ W hW h))
  · rw [if_neg (by rw [h0]; decide), h0] at h
    obtain ⟨m, hm, h⟩ := Option.bind_eq_some_iff.mp h
    obtain ⟨n, hn, h⟩ := Option.bind_eq_some_iff.mp h
    cases m
    · cases h
      exact Dyad_not 97 _ a b w rfl (Or.inl hm)
    · cases n
      · cases h
        exact Dyad_not 97 _ a b w rfl (Or.inr ⟨hm, hn⟩)
      · exact Dyad_does Tryz.func97 (by kernel_rfl) rfl _ a b r1 r2 w hG rfl hm hn (fun W hW => (M.num_Mod.calls k a b _ _ W hW h))
  · rw [if_neg (by rw [h0]; decide), h0] at h
    obtain ⟨m, hm, h⟩ := Option.bind_eq_some_iff.mp h
    obtain ⟨n, hn, h⟩ := Option.bind_eq_some_iff.mp h
    cases m
    · cases h
      exact Dyad_not 98 _ a b w rfl (Or.inl hm)
    · cases n
      · cases h
        exact Dyad_not 98 _ a b w rfl (Or.inr ⟨hm, hn⟩)
      · exact Dyad_does Tryz.func98 (by kernel_rfl) rfl _ a b r1 r2 w hG rfl hm hn (fun W hW => (SC.scalar_Dyad_1.calls k a b _ _ W h))
  · rw [if_neg (by rw [h0]; decide), h0] at h
    obtain ⟨m, hm, h⟩ := Option.bind_eq_some_iff.mp h
    obtain ⟨n, hn, h⟩ := Option.bind_eq_some_iff.mp h
    cases m
    · cases h
      exact Dyad_not 101 _ a b w rfl (Or.inl hm)
    · cases n
      · cases h
        exact Dyad_not 101 _ a b w rfl (Or.inr ⟨hm, hn⟩)
      · exact Dyad_does Tryz.func101 (by kernel_rfl) rfl _ a b r1 r2 w hG rfl hm hn (fun W hW => (SC.scalar_Dyad_2.calls k a b _ _ W h))
  · rw [if_neg (by rw [h0]; decide), h0] at h
    obtain ⟨m, hm, h⟩ := Option.bind_eq_some_iff.mp h
    obtain ⟨n, hn, h⟩ := Option.bind_eq_some_iff.mp h
    cases m
    · cases h
      exact Dyad_not 102 _ a b w rfl (Or.inl hm)
    · cases n
      · cases h
        exact Dyad_not 102 _ a b w rfl (Or.inr ⟨hm, hn⟩)
      · exact Dyad_does Tryz.func102 (by kernel_rfl) rfl _ a b r1 r2 w hG rfl hm hn (fun W hW => (SC.scalar_Dyad_3.calls k a b _ _ W h))
  · rw [if_neg (by rw [h0]; decide), h0] at h
    obtain ⟨m, hm, h⟩ := Option.bind_eq_some_iff.mp h
    obtain ⟨n, hn, h⟩ := Option.bind_eq_some_iff.mp h
    cases m
    · cases h
      exact Dyad_not 104 _ a b w rfl (Or.inl hm)
    · cases n
      · cases h
        exact Dyad_not 104 _ a b w rfl (Or.inr ⟨hm, hn⟩)
      · exact Dyad_does Tryz.func104 (by kernel_rfl) rfl _ a b r1 r2 w hG rfl hm hn (fun W hW => (SC.scalar_Dyad_4.calls k a b _ _ W h))
  · rw [if_neg (by rw [h0]; decide), h0] at h
    obtain ⟨m, hm, h⟩ := Option.bind_eq_some_iff.mp h
    obtain ⟨n, hn, h⟩ := Option.bind_eq_some_iff.mp h
    cases m
    · cases h
      exact Dyad_not 105 _ a b w rfl (Or.inl hm)
    · cases n
      · cases h
        exact Dyad_not 105 _ a b w rfl (Or.inr ⟨hm, hn⟩)
      · exact Dyad_does Tryz.func105 (by kernel_rfl) rfl _ a b r1 r2 w hG rfl hm hn (fun W hW => (SC.scalar_Dyad_5.calls a b _ _ W h).mono (fun e w' h => ⟨h.1, by obtain ⟨n, e⟩ := h.2; rw [e]; exact pw_below_drewN (Below.refl _ _) n⟩))
  · rw [if_neg (by rw [h0]; decide), h0] at h
    obtain ⟨m, hm, h⟩ := Option.bind_eq_some_iff.mp h
    obtain ⟨n, hn, h⟩ := Option.bind_eq_some_iff.mp h
    cases m
    · cases h
      exact Dyad_not 106 _ a b w rfl (Or.inl hm)
    · cases n
      · cases h
        exact Dyad_not 106 _ a b w rfl (Or.inr ⟨hm, hn⟩)
      · exact Dyad_does Tryz.func106 (by kernel_rfl) rfl _ a b r1 r2 w hG rfl hm hn (fun W hW => (SC.scalar_Dyad_6.calls a b _ _ W h).mono (fun e w' h => ⟨h.1, by obtain ⟨n, e⟩ := h.2; rw [e]; exact pw_below_drewN (Below.refl _ _) n⟩))
end Go.Proofs.YtcpaajecppplhaaGreatDoor.Hd
end
