/- What the law leans on, part 20: declarations of several texts of ours, in their order. -/
import Derived.Test.YtcpaajecppplhaaGreatDoorXT18
import Derived.Test.YtcpaajecppplhaaGreatDoorProg
import Derived.Below
import Derived.Deep.Draws
import Derived.Deep.AppendLies
import Derived.Maps.AppendAt
import Derived.OwnWalk
import Derived.Laws.BytesArg
import Derived.Laws.MakeOwn
import Derived.Laws.OwnMore
import Derived.Deep.OwnRows
import Derived.Tactics
import Derived.Lib.ConvBytes
import Derived.Laws.Slices
import Derived.WalkKit
import Derived.KernelRfl
import Derived.RowKit3
import Derived.Deep.LoopGhost
import Derived.Deep.QuietTactic
import Derived.BigQuiet
import Derived.WideLaws
import Derived.Deep.DeepCutAuto
import Derived.Deep.CutBlock
import Derived.Deep.RegionHeld3
import Derived.Laws.Rows
import Derived.Lib.AppendStr
import Derived.ArgAppend
import Derived.Laws.IdiomCopy
import Derived.OrdersHeld
import Derived.Laws.BitsLemmas
import Derived.RowKit
import Derived.Test.YtcpaajecppplhaaGreatDoorXT0
import Derived.Test.YtcpaajecppplhaaGreatDoorXT1
import Derived.Test.YtcpaajecppplhaaGreatDoorXT2
import Derived.Test.YtcpaajecppplhaaGreatDoorXT3
import Derived.Test.YtcpaajecppplhaaGreatDoorXT13
section
/- Reading and telling of numbers, plainly: num.read and whole.text at every number. -/
namespace Go.Proofs.YtcpaajecppplhaaGreatDoor.Nm
open Go.Lib Go.RowKit Go.Proofs.YtcpaajecppplhaaGreatDoorW.PrintWords Go.Proofs.YtcpaajecppplhaaGreatDoorW.PrintLast Go.Proofs.YtcpaajecppplhaaGreatDoor
set_option linter.unusedVariables false
set_option linter.unusedSimpArgs false
/-! ### read -/
theorem parse_part (l : List UInt8) (hd : Dig l) (hne : l ≠ []) (hl : l.length ≤ 9) : Hd.parseUint.f (BA l) 10 64 = some ((val l : Int), none) := by
  have hv : val l < 1000000000 := Nat.lt_of_lt_of_le (val_lt l hd) (Nat.le_trans (Nat.pow_le_pow_right (by decide) hl) (by decide))
  unfold Hd.parseUint.f
  rw [if_pos ⟨rfl, rfl, by rw [ba_size]; omega⟩, ba_data]
  have e : parseUintB 64 l = .ok (val l) := by
    unfold parseUintB
    rw [if_neg hne, parseM l hd 0 (by decide), Nat.zero_mul, Nat.zero_add, if_pos (by omega)]
  rw [e]
theorem ba_drop (l : List UInt8) (i : Nat) (hi : i ≤ l.length) : (BA l).extract i (BA l).size = BA (l.drop i) := by
  apply ByteArray.ext
  rw [ByteArray.data_extract]
  apply Array.ext'
  simp [BA, ByteArray.size]
  exact List.take_of_length_le (by simp)
theorem ba_take (l : List UInt8) (i : Nat) (hi : i ≤ l.length) : (BA l).extract 0 i = BA (l.take i) := by
  apply ByteArray.ext
  rw [ByteArray.data_extract]
  apply Array.ext'
  simp [BA]
theorem dig_drop {l : List UInt8} (h : Dig l) (i : Nat) : Dig (l.drop i) := fun c hc => h c (List.mem_of_mem_drop hc)
theorem dig_take {l : List UInt8} (h : Dig l) (i : Nat) : Dig (l.take i) := fun c hc => h c (List.mem_of_mem_take hc)
theorem val_split (l : List UInt8) (i : Nat) : val l = val (l.take i) * 10 ^ (l.length - i) + val (l.drop i) := by
  conv => lhs; rw [← List.take_append_drop i l]
  rw [val_append, List.length_drop]
theorem read_loop (z : Int) (hz : (itoa z).length ≤ 100000) : ∀ (e : Nat) (d : List UInt8) (m : List Nat), d.length ≤ e → d.length ≤ 100000 → m.length ≤ 100000 - d.length → Dig d → Pt m →
    Ev (fun k => K.num_read.l0 k (numS z) (BA d) (il m)) (il (mg (mv m + 1000000000 ^ m.length * val d)), decide (z < 0)) := by
  have hsz : (numS z).size = (itoa z).length := ba_size _
  have hpos : 0 < (itoa z).length := by
    by_cases h : z < 0
    · rw [itoa_neg' h]; simp
    · rw [itoa_pos' h]; exact List.length_pos_iff.mpr (decDigits_ne _)
  have hend : ∀ (m : List Nat), m.length ≤ 100000 → Pt m → Ev (fun k => K.num_read.l0 k (numS z) (BA []) (il m)) (il (mg (mv m)), decide (z < 0)) := by
    intro m hl hp
    refine Ev.step (fun k => ?_) (Ev.bind (f := fun k t => some (t, decide (z < 0))) (trimM_ev m (by omega) hp) (Ev.now _))
    simp only [K.num_read.l0]
    rw [if_neg (by rw [ba_size]; simp), hsz]
    have hl1 : ((itoa z).length : Int) > 0 := by omega
    have hl2 : (0 : Int) < ((itoa z).length : Int) := by omega
    simp only [hl1, hl2, if_true]
    have hb : (bt (numS z) 0 == 45) = decide (z < 0) := by
      by_cases h : z < 0
      · rw [numS_neg h, bt_head, decide_eq_true h]; rfl
      · obtain ⟨c, r, e, h1, h2⟩ := head_dec z.natAbs
        rw [numS_pos h, e, bt_head, decide_eq_false h]
        exact beq_eq_false_iff_ne.mpr (by omega)
    rw [hb]
  intro e
  induction e with
  | zero =>
    intro d m hd _ hl hdd hp
    have : d = [] := List.length_eq_zero_iff.mp (by omega)
    subst this
    rw [val_nil, Nat.mul_zero, Nat.add_zero]
    exact hend m (by omega) hp
  | succ e ih =>
    intro d m hd hd1 hl hdd hp
    by_cases hne : d = []
    · subst hne
      rw [val_nil, Nat.mul_zero, Nat.add_zero]
      exact hend m (by omega) hp
    · have hdl : 0 < d.length := List.length_pos_iff.mpr hne
      obtain ⟨a, ha⟩ : ∃ a, a = d.length - 9 := ⟨_, rfl⟩
      have hmx : mx (wrap64 ((d.length : Int) - 9)) 0 = (a : Int) := by
        rw [w64 (by omega) (by omega)]
        unfold mx
        split <;> omega
      have hpart := parse_part (d.drop a) (dig_drop hdd a) (by intro h; have := congrArg List.length h; simp at this; omega) (by simp; omega)
      have hv9 : val (d.drop a) < 1000000000 := by
        have h1 := val_lt (d.drop a) (dig_drop hdd a)
        rw [List.length_drop] at h1
        exact Nat.lt_of_lt_of_le h1 (Nat.le_trans (Nat.pow_le_pow_right (by decide) (show d.length - a ≤ 9 by omega)) (by decide))
      have hih := ih (d.take a) (m ++ [val (d.drop a)]) (by simp; omega) (by simp; omega) (by simp; omega) (dig_take hdd a) (pt_append hp (pt_one hv9))
      have hval : mv (m ++ [val (d.drop a)]) + 1000000000 ^ (m ++ [val (d.drop a)]).length * val (d.take a) = mv m + 1000000000 ^ m.length * val d := by
        rw [mv_snoc, val_split d a, List.length_append, List.length_cons, List.length_nil, Nat.zero_add, Nat.pow_succ]
        have hs : val (d.take a) * 10 ^ (d.length - a) = val (d.take a) * 1000000000 := by
          by_cases h9 : 9 ≤ d.length
          · rw [show d.length - a = 9 by omega]
          · have : a = 0 := by omega
            rw [this, List.take_zero, val_nil, Nat.zero_mul, Nat.zero_mul]
        rw [hs, Nat.mul_add, Nat.mul_assoc, Nat.mul_comm 1000000000 (val (d.take a))]
        omega
      rw [hval] at hih
      refine Ev.step (fun k => ?_) hih
      simp only [K.num_read.l0]
      rw [if_pos (by rw [ba_size]; omega), ba_size, hmx, if_pos (by omega), if_pos (by omega), Int.toNat_natCast]
      rw [← ba_size d, ba_drop d a (by omega), ba_take d a (by omega), hpart]
      simp only [Option.bind_some]
      rw [il_len, if_pos (by omega), il_append]
      rfl
def wh (z : Int) : List Int × Bool := (il (mg z.natAbs), decide (z < 0))
theorem read_ev (z : Int) (hz : nl z ≤ 1000) : Ev (fun k => K.num_read.f k (numS z)) (wh z) := by
  have hl := itoa_len z
  have h := read_loop z (by omega) _ (decDigits z.natAbs) [] (Nat.le_refl _) (by show nl z ≤ _; omega) (by simp) (dig_decDigits _) (fun _ h => by cases h)
  rw [mv, Nat.zero_add, List.length_nil, Nat.pow_zero, Nat.one_mul, val_decDigits] at h
  refine Ev.congr (fun k => ?_) h
  unfold K.num_read.f
  rw [show numS z = BA (itoa z) from rfl, trim_ev, body_itoa]
  rfl
end Go.Proofs.YtcpaajecppplhaaGreatDoor.Nm
end
section
/- The program's numbers, plainly: Add, Sub, Mul, Cmp, Neg, Sign at the text of every number, and at every other text. -/
namespace Go.Proofs.YtcpaajecppplhaaGreatDoor.Nm
open Go.Lib Go.RowKit Go.Proofs.YtcpaajecppplhaaGreatDoorW.PrintWords Go.Proofs.YtcpaajecppplhaaGreatDoorW.PrintLast Go.Proofs.YtcpaajecppplhaaGreatDoor
set_option linter.unusedVariables false
set_option linter.unusedSimpArgs false
instance decSm (z : Int) : Decidable (Sm z) := by unfold Sm; exact inferInstance
theorem itoa_inj {x y : Int} (h : itoa x = itoa y) : x = y := by
  have h1 := congrArg body h
  rw [body_itoa, body_itoa] at h1
  have h2 := congrArg val h1
  rw [val_decDigits, val_decDigits] at h2
  by_cases hx : x < 0
  · by_cases hy : y < 0
    · omega
    · exfalso
      rw [itoa_neg' hx, itoa_pos' hy] at h
      obtain ⟨c, r, e, h3, h4⟩ := head_dec y.natAbs
      rw [e] at h
      simp only [List.cons.injEq] at h
      rw [← h.1] at h3
      exact absurd h3 (by decide)
  · by_cases hy : y < 0
    · exfalso
      rw [itoa_pos' hx, itoa_neg' hy] at h
      obtain ⟨c, r, e, h3, h4⟩ := head_dec x.natAbs
      rw [e] at h
      simp only [List.cons.injEq] at h
      rw [h.1] at h3
      exact absurd h3 (by decide)
    · omega
end Go.Proofs.YtcpaajecppplhaaGreatDoor.Nm
end
