/- What the law leans on, part 27: declarations of several texts of ours, in their order. -/
import Derived.Test.YtcpaajecppplhaaGreatDoorXT21
import Derived.Test.YtcpaajecppplhaaGreatDoorXT25
section
namespace Go.Proofs.YtcpaajecppplhaaGreatDoor.TV
open Go.RowKit Go.Proofs.YtcpaajecppplhaaGreatDoorW.PrintWords Go.Proofs.YtcpaajecppplhaaGreatDoorW.PrintLast Go.Proofs.YtcpaajecppplhaaGreatDoorW.PrintMore Go.Proofs.YtcpaajecppplhaaGreatDoor.B Go.Proofs.YtcpaajecppplhaaGreatDoor.K Go.Proofs.YtcpaajecppplhaaGreatDoor.L Go.Proofs.YtcpaajecppplhaaGreatDoor.M Go.Proofs.YtcpaajecppplhaaGreatDoor.SC
attribute [local go_sem] max2_int min2_int max_two min_two max_three min_three max_four min_four
set_option linter.unusedVariables false
set_option linter.unusedSimpArgs false
attribute [local go_sem] Hd.fldV0 Hd.fldV1
/-! ### reredosref11_words: function 130 -/
mutual
def reredosref11_words.l0 : Nat → ByteArray → List ByteArray → ByteArray → Int → Option (List ByteArray)
  | 0, _, _, _, _ => none
  | k + 1, x0, x3, x4, x5 => if x5 < (x0.size : Int) then (if 0 ≤ x5 then (if (bt x0 x5) = 32 then (reredosref11_words.j1 k x0 x3 x4 x5 true) else (reredosref11_words.j1 k x0 x3 x4 x5 ((bt x0 x5) == 44))) else (none)) else (if x4.toList = ([] : List UInt8) then (reredosref11_words.j2 k x3) else (if x3.length < 8796093022208 then (reredosref11_words.j2 k (x3 ++ [x4])) else (none)))
def reredosref11_words.j1 : Nat → ByteArray → List ByteArray → ByteArray → Int → Bool → Option (List ByteArray)
  | 0, _, _, _, _, _ => none
  | k + 1, x0, x3, x4, x5, x25 => if x25 = true then (if x4.toList = ([] : List UInt8) then (reredosref11_words.l0 k x0 x3 (⟨#[]⟩ : ByteArray) (wrap64 (x5 + 1))) else (if x3.length < 8796093022208 then (reredosref11_words.l0 k x0 (x3 ++ [x4]) (⟨#[]⟩ : ByteArray) (wrap64 (x5 + 1))) else (none))) else (if 0 ≤ x5 then (if x5 ≤ (wrap64 (x5 + 1)) then (if (wrap64 (x5 + 1)) ≤ (x0.size : Int) then (if x4.size + (x0.extract (x5 : Int).toNat ((wrap64 (x5 + 1)) : Int).toNat).size ≤ 9223372036854775807 then (reredosref11_words.l0 k x0 x3 (x4 ++ (x0.extract (x5 : Int).toNat ((wrap64 (x5 + 1)) : Int).toNat)) (wrap64 (x5 + 1))) else (none)) else (none)) else (none)) else (none))
def reredosref11_words.j2 : Nat → List ByteArray → Option (List ByteArray)
  | 0, _ => none
  | k + 1, x3 => reredosref11_words.l1 k x3 ([] : List ByteArray) 0
def reredosref11_words.l1 : Nat → List ByteArray → List ByteArray → Int → Option (List ByteArray)
  | 0, _, _, _ => none
  | k + 1, x3, x6, x7 => if x7 < (x3.length : Int) then (if 0 ≤ x7 then ((reredosref07_Number.f k (rdOf ByteArray.empty x3 x7)).bind fun bt277 => (if x6.length < 8796093022208 then (reredosref11_words.l1 k x3 (x6 ++ [bt277.1]) (wrap64 (x7 + 1))) else (none))) else (none)) else (some x6)
end
def reredosref11_words.f (k : Nat) (a0 : ByteArray) : Option (List ByteArray) := reredosref11_words.l0 k a0 ([] : List ByteArray) (⟨#[]⟩ : ByteArray) 0
set_option maxHeartbeats 8000000 in
set_option maxRecDepth 100000 in
theorem reredosref11_words.calls (k : Nat) (a0 : ByteArray) (r : List ByteArray) (w : World) (h : reredosref11_words.f k a0 = some r) :
    Calls Tryz.prog 130 #[.string a0] w fun e w' => ∃ v0_ : Value, e = .returned (v0_) ∧ Kd.R Kd.string 9 w' w.heap.size (fun _ => True) v0_ r ∧ Below w.heap.size w w' := by
  have HB := Aside0.mk (Below.refl w.heap.size w)
  have H : (reredosref11_words.l0 k a0 ([] : List ByteArray) (⟨#[]⟩ : ByteArray) 0) = some r := h
  clear h
  have H' := Aside0.mk H
  clear H
  go_enter Tryz.func130, Tryz.ntmps130
  go_wp2
  go_loopg [3, 4, 5] k (fun kq v3 v4 v5 w' => ∃ (x3_1 : List ByteArray) (x4_1 : ByteArray) (x5_1 : Int), v4 = .string x4_1 ∧ v5 = .int .i64 x5_1 ∧ Aside0 (reredosref11_words.l0 kq a0 x3_1 x4_1 x5_1 = some r) ∧ Aside0 (kq ≤ k) ∧ Aside0 (Kd.R Kd.string 9 w' w.heap.size (fun _ => True) v3 x3_1) ∧ Aside0 (Below w.heap.size w w'))
  case atStart => exact ⟨(([] : List ByteArray)), ((⟨#[]⟩ : ByteArray)), (0), bkF, bkF, H', ⟨Nat.le_refl _⟩, ⟨by first | exact Kd.R_nil _ _ _ _ _ | exact Kd.N_nil _ _ _ _ _ | exact Kd.V_nil _ _ _ _ _ | exact Kd.Q_nil _ _ _ _ _ | exact Kd.S_nil _ _ _ _ _⟩, ⟨bkB⟩⟩
  case round =>
    clear H'
    try clear c1
    obtain ⟨x3_1, x4_1, x5_1, rfl, rfl, HA, HK1, HO_3, HB⟩ := hrel
    cases gk with
    | zero => exact absurd HA.out (by simp [reredosref11_words.l0])
    | succ k1 =>
      have H := HA.out
      clear HA
      simp only [reredosref11_words.l0] at H
      refine iteE H ?_ ?_ <;> clear H <;> intro c2 H
      · have c2b0 : decide (x5_1 < (a0.size : Int)) = true := decide_eq_true c2
        clear c2
        have HC3 := Aside0.mk H
        clear H
        go_upto_region 6 with (fail)
        go_cut [25] (fun v25 wc => ∃ (kq : Nat) (x25_2 : Bool), v25 = .bool x25_2 ∧ Aside0 (reredosref11_words.j1 kq a0 x3_1 x4_1 x5_1 x25_2 = some r) ∧ Aside0 (kq ≤ k1) ∧ Aside0 (Kd.R Kd.string 9 wc w.heap.size (fun _ => True) u3 x3_1) ∧ Aside0 (Below w.heap.size w wc))
        case first =>
          have H := HC3.out
          clear HC3
          refine iteE H ?_ ?_ <;> clear H <;> intro c4 H
          · have c4b0 : decide (0 ≤ x5_1) = true := decide_eq_true c4
            clear c4
            (first | rw [c4b0] | (simp only [i64_w, i32_w]; rw [c4b0]) | skip)
            refine iteE H ?_ ?_ <;> clear H <;> intro c6 H
            · have c6b0 : ((bt a0 x5_1) == 32) = true := beq_iff_eq.mpr c6
              have c6b1 : ((bt a0 x5_1) != 32) = false := bne_eq_false_iff_eq.mpr c6
              clear c6
              have H' := Aside0.mk H
              clear H
              have p5 : 0 ≤ (x5_1 : Int) := of_decide_eq_true (by first | (with_reducible assumption) | assumption)
              have q5 : x5_1 < (a0.size : Int) := of_decide_eq_true (by first | (with_reducible assumption) | assumption)
              have hx5 := bt_at a0 x5_1
              replace p5 := eq_true p5
              replace q5 := eq_true q5
              go_wp2
              go_meet
              case rel => exact ⟨_, (true), bkF, H', ⟨by have := HK1.out; first | omega | exact Nat.le_refl _⟩, ⟨by (with_reducible repeat (first | apply Kd.R_alloc | apply Kd.R_drewN | apply Kd.R_drew)); exact HO_3.out⟩, ⟨bkB⟩⟩
            · have c6b0 : ((bt a0 x5_1) == 32) = false := beq_eq_false_iff_ne.mpr c6
              have c6b1 : ((bt a0 x5_1) != 32) = true := bne_iff_ne.mpr c6
              have H' := Aside0.mk H
              clear H
              have p5 : 0 ≤ (x5_1 : Int) := of_decide_eq_true (by first | (with_reducible assumption) | assumption)
              have q5 : x5_1 < (a0.size : Int) := of_decide_eq_true (by first | (with_reducible assumption) | assumption)
              have hx5 := bt_at a0 x5_1
              replace p5 := eq_true p5
              replace q5 := eq_true q5
              have p7 : 0 ≤ (x5_1 : Int) := of_decide_eq_true (by first | (with_reducible assumption) | assumption)
              have q7 : x5_1 < (a0.size : Int) := of_decide_eq_true (by first | (with_reducible assumption) | assumption)
              have hx7 := bt_at a0 x5_1
              replace p7 := eq_true p7
              replace q7 := eq_true q7
              go_wp2
              go_meet
              case rel => exact ⟨_, (((bt a0 x5_1) == 44)), bkF, H', ⟨by have := HK1.out; first | omega | exact Nat.le_refl _⟩, ⟨by (with_reducible repeat (first | apply Kd.R_alloc | apply Kd.R_drewN | apply Kd.R_drew)); exact HO_3.out⟩, ⟨bkB⟩⟩
          · exact absurd H (by simp)
        case rest =>
          clear HC3
          try clear c1
          try clear c2
          try clear c2b0
          try clear p2
          try clear c4
          try clear c4b0
          try clear p5
          try clear q5
          try clear hx5
          try clear c6
          try clear c6b0
          try clear c6b1
          try clear p7
          try clear q7
          try clear hx7
          try clear p5
          try clear p7
          try clear q5
          try clear q7
          obtain ⟨kq, x25_2, rfl, HA, HJ2, HO_3, HB⟩ := hcut
          cases kq with
          | zero => exact absurd HA.out (by simp [reredosref11_words.j1])
          | succ kj2 =>
            have H := HA.out
            clear HA
            simp only [reredosref11_words.j1] at H
            refine iteB H ?_ ?_ <;> clear H <;> rintro rfl H
            · by_cases c9 : x4_1.toList = ([] : List UInt8)
              · rw [if_pos c9] at H
                have c9b0 : (x4_1.toList == ([] : List UInt8)) = true := beq_iff_eq.mpr c9
                have c9b1 : (x4_1.toList != ([] : List UInt8)) = false := bne_eq_false_iff_eq.mpr c9
                clear c9
                have H' := Aside0.mk H
                clear H
                go_wp2
                go_roundg kj2
                case measure => have := HK1.out; have := HJ2.out; omega
                case rel => exact ⟨(x3_1), ((⟨#[]⟩ : ByteArray)), (wrap64 (x5_1 + 1)), bkF, bkF, H', ⟨by have := HK1.out; have := HJ2.out; omega⟩, ⟨by (with_reducible repeat (first | apply Kd.R_alloc | apply Kd.R_drewN | apply Kd.R_drew)); exact HO_3.out⟩, ⟨bkB⟩⟩
              · rw [if_neg c9] at H
                have c9b0 : (x4_1.toList == ([] : List UInt8)) = false := beq_eq_false_iff_ne.mpr c9
                have c9b1 : (x4_1.toList != ([] : List UInt8)) = true := bne_iff_ne.mpr c9
                refine iteE H ?_ ?_ <;> clear H <;> intro c10 H
                · have LMc10 := Aside0.mk c10
                  clear c10
                  obtain ⟨y270, hy270⟩ : ∃ y_ : List ByteArray, y_ = (x3_1 ++ [x4_1]) := ⟨_, rfl⟩
                  replace H : (reredosref11_words.l0 kj2 a0 y270 (⟨#[]⟩ : ByteArray) (wrap64 (x5_1 + 1))) = some r := by first | (rw [hy270]; with_reducible exact H) | (have H2_ := (Option.bind_some _ _).symm.trans H; rw [hy270]; with_reducible exact H2_) | (have H2_ := (Option.bind_some _ _).symm.trans H; with_reducible exact H2_) | with_reducible exact H | (rw [hy270]; exact H) | exact H
                  have Ny270 := Aside0.mk hy270
                  clear hy270
                  have H' := Aside0.mk H
                  clear H
                  go_wp2_with (first | ((with_reducible refine gate_builtin (b := .append) (xs := #[.tmp 28, .tmp 30]) rfl ?_); at_builtin; refine Kd.R_append Kd.string (w0 := w) w.heap.size rfl (.tmp 28) (.tmp 30) 23 9 (.string ⟨#[]⟩) 16 rfl Tryz.underlying23 info9 rfl (by decide) (by omega) u3 x3_1 x4_1 [.string x4_1] (fun _ => True) (fun _ => False) rfl rfl ?aP (fun _ hk => hk.elim) ?aF ?aO ?aB ?aS ?aL ?_; (case aP => exact rfl); (case aB => exact bkB); (case aF => exact (fun _ _ => trivial)); (case aO => exact (by (with_reducible repeat (first | apply Kd.R_alloc | apply Kd.R_drewN | apply Kd.R_drew)); exact HO_3.out)); (case aS => exact (below_size bkB)); (case aL => have := LMc10.out; omega); intro v271 w11 ho hb hg hat; rw [← Ny270.out] at ho; have n0_ := Aside0.mk (hb); have n1_ := Aside0.mk (ho); clear HB; clear HO_3; have HB := n0_; have HO272 := n1_; clear n0_ n1_; clear ho hb hg hat))
                  go_roundg kj2
                  case measure => have := HK1.out; have := HJ2.out; omega
                  case rel => exact ⟨(y270), ((⟨#[]⟩ : ByteArray)), (wrap64 (x5_1 + 1)), bkF, bkF, H', ⟨by have := HK1.out; have := HJ2.out; omega⟩, ⟨by (with_reducible repeat (first | apply Kd.R_alloc | apply Kd.R_drewN | apply Kd.R_drew)); exact HO272.out⟩, ⟨bkB⟩⟩
                · exact absurd H (by simp)
            · by_cases c12 : 0 ≤ x5_1
              · rw [if_pos c12] at H
                have c12b0 := eq_true c12
                have c12b1 : decide (0 ≤ x5_1) = true := decide_eq_true c12
                clear c12
                refine iteE H ?_ ?_ <;> clear H <;> intro c13 H
                · have c13b0 := eq_true c13
                  have c13b1 : decide (x5_1 ≤ (wrap64 (x5_1 + 1))) = true := decide_eq_true c13
                  refine iteE H ?_ ?_ <;> clear H <;> intro c14 H
                  · have c14b0 := eq_true c14
                    have c14b1 : decide ((wrap64 (x5_1 + 1)) ≤ (a0.size : Int)) = true := decide_eq_true c14
                    refine iteE H ?_ ?_ <;> clear H <;> intro c15 H
                    · have c15b0 := eq_true c15
                      have c15b1 : decide (x4_1.size + (a0.extract (x5_1 : Int).toNat ((wrap64 (x5_1 + 1)) : Int).toNat).size ≤ 9223372036854775807) = true := decide_eq_true c15
                      try have c15b2 : (9223372036854775807 < x4_1.size + (a0.extract (x5_1 : Int).toNat ((wrap64 (x5_1 + 1)) : Int).toNat).size) = False := eq_false (Nat.not_lt.2 c15)
                      have H' := Aside0.mk H
                      clear H
                      go_wp2
                      go_roundg kj2
                      case measure => have := HK1.out; have := HJ2.out; omega
                      case rel => exact ⟨(x3_1), (x4_1 ++ (a0.extract (x5_1 : Int).toNat ((wrap64 (x5_1 + 1)) : Int).toNat)), (wrap64 (x5_1 + 1)), bkF, bkF, H', ⟨by have := HK1.out; have := HJ2.out; omega⟩, ⟨by (with_reducible repeat (first | apply Kd.R_alloc | apply Kd.R_drewN | apply Kd.R_drew)); exact HO_3.out⟩, ⟨bkB⟩⟩
                    · exact absurd H (by simp)
                  · exact absurd H (by simp)
                · exact absurd H (by simp)
              · rw [if_neg c12] at H
                exact absurd H (by simp)
      · have c2b0 : decide (x5_1 < (a0.size : Int)) = false := decide_eq_false c2
        clear c2
        have HC16 := Aside0.mk H
        clear H
        go_upto_if 40 with (fail)
        go_cut [3] (fun v3 wc => ∃ (kq : Nat) (x3_15 : List ByteArray), Aside0 (reredosref11_words.j2 kq x3_15 = some r) ∧ Aside0 (kq ≤ k1) ∧ Aside0 (Kd.R Kd.string 9 wc w.heap.size (fun _ => True) v3 x3_15) ∧ Aside0 (Below w.heap.size w wc))
        case first =>
          have H := HC16.out
          clear HC16
          refine iteE H ?_ ?_ <;> clear H <;> intro c17 H
          · have c17b0 : (x4_1.toList == ([] : List UInt8)) = true := beq_iff_eq.mpr c17
            have c17b1 : (x4_1.toList != ([] : List UInt8)) = false := bne_eq_false_iff_eq.mpr c17
            clear c17
            (first | rw [c17b0] | (simp only [i64_w, i32_w]; rw [c17b0]) | simp only [Hd.isE c17b0, Bool.not_true, Bool.not_false] | skip)
            have H' := Aside0.mk H
            clear H
            go_wp2
            go_meet
            case rel => exact ⟨_, (x3_1), H', ⟨by have := HK1.out; first | omega | exact Nat.le_refl _⟩, ⟨by (with_reducible repeat (first | apply Kd.R_alloc | apply Kd.R_drewN | apply Kd.R_drew)); exact HO_3.out⟩, ⟨bkB⟩⟩
          · have c17b0 : (x4_1.toList == ([] : List UInt8)) = false := beq_eq_false_iff_ne.mpr c17
            have c17b1 : (x4_1.toList != ([] : List UInt8)) = true := bne_iff_ne.mpr c17
            (first | rw [c17b0] | (simp only [i64_w, i32_w]; rw [c17b0]) | simp only [Hd.isN c17b0, Bool.not_true, Bool.not_false] | skip)
            refine iteE H ?_ ?_ <;> clear H <;> intro c18 H
            · have LMc18 := Aside0.mk c18
              clear c18
              obtain ⟨y273, hy273⟩ : ∃ y_ : List ByteArray, y_ = (x3_1 ++ [x4_1]) := ⟨_, rfl⟩
              replace H : (reredosref11_words.j2 k1 y273) = some r := by first | (rw [hy273]; with_reducible exact H) | (have H2_ := (Option.bind_some _ _).symm.trans H; rw [hy273]; with_reducible exact H2_) | (have H2_ := (Option.bind_some _ _).symm.trans H; with_reducible exact H2_) | with_reducible exact H | (rw [hy273]; exact H) | exact H
              have Ny273 := Aside0.mk hy273
              clear hy273
              have H' := Aside0.mk H
              clear H
              go_wp2_with (first | ((with_reducible refine gate_builtin (b := .append) (xs := #[.tmp 41, .tmp 43]) rfl ?_); at_builtin; refine Kd.R_append Kd.string (w0 := w) w.heap.size rfl (.tmp 41) (.tmp 43) 23 9 (.string ⟨#[]⟩) 16 rfl Tryz.underlying23 info9 rfl (by decide) (by omega) u3 x3_1 x4_1 [.string x4_1] (fun _ => True) (fun _ => False) rfl rfl ?aP (fun _ hk => hk.elim) ?aF ?aO ?aB ?aS ?aL ?_; (case aP => exact rfl); (case aB => exact bkB); (case aF => exact (fun _ _ => trivial)); (case aO => exact (by (with_reducible repeat (first | apply Kd.R_alloc | apply Kd.R_drewN | apply Kd.R_drew)); exact HO_3.out)); (case aS => exact (below_size bkB)); (case aL => have := LMc18.out; omega); intro v274 w19 ho hb hg hat; rw [← Ny273.out] at ho; have n0_ := Aside0.mk (hb); have n1_ := Aside0.mk (ho); clear HB; clear HO_3; have HB := n0_; have HO275 := n1_; clear n0_ n1_; clear ho hb hg hat))
              go_meet
              case rel => exact ⟨_, (y273), H', ⟨by have := HK1.out; first | omega | exact Nat.le_refl _⟩, ⟨by (with_reducible repeat (first | apply Kd.R_alloc | apply Kd.R_drewN | apply Kd.R_drew)); exact HO275.out⟩, ⟨bkB⟩⟩
            · exact absurd H (by simp)
        case rest =>
          clear HC16
          try clear c1
          try clear c2
          try clear c2b0
          try clear p2
          try clear c4
          try clear c4b0
          try clear p5
          try clear q5
          try clear hx5
          try clear c6
          try clear c6b0
          try clear c6b1
          try clear p6
          try clear p7
          try clear q7
          try clear hx7
          try clear c8
          try clear c9
          try clear c9b0
          try clear c9b1
          try clear c10
          try clear c12
          try clear c12b0
          try clear c12b1
          try clear c13
          try clear c13b0
          try clear c13b1
          try clear c14
          try clear c14b0
          try clear c14b1
          try clear c15
          try clear c15b0
          try clear c15b1
          try clear c15b2
          try clear c17
          try clear c17b0
          try clear c17b1
          try clear c18
          try clear p2
          try clear p5
          try clear p7
          try clear q5
          try clear q7
          obtain ⟨kq, x3_15, HA, HJ15, HO_3, HB⟩ := hcut
          cases kq with
          | zero => exact absurd HA.out (by simp [reredosref11_words.j2])
          | succ kj15 =>
            have H := HA.out
            clear HA
            simp only [reredosref11_words.j2] at H
            have H' := Aside0.mk H
            clear H
            go_wp2
            go_loopg [6, 7] kj15 (fun kq v6 v7 w' => ∃ (x6_3 : List ByteArray) (x7_3 : Int), v7 = .int .i64 x7_3 ∧ Aside0 (reredosref11_words.l1 kq x3_15 x6_3 x7_3 = some r) ∧ Aside0 (kq ≤ kj15) ∧ Aside0 (Kd.R Kd.string 9 w' w.heap.size (fun k_ => some k_ ≠ (v6 : Value).ownBlock) u3 x3_15) ∧ Aside0 (Kd.R Kd.string 9 w' w.heap.size (fun k_ => some k_ ≠ (u3 : Value).ownBlock) v6 x6_3) ∧ Aside0 (Below w.heap.size w w'))
            case atStart => exact ⟨(([] : List ByteArray)), (0), bkF, H', ⟨Nat.le_refl _⟩, ⟨by (with_reducible repeat (first | apply Kd.R_alloc | apply Kd.R_drewN | apply Kd.R_drew)); exact Kd.R_mono HO_3.out (fun _ hk => (by simp [Value.ownBlock]))⟩, ⟨by first | exact Kd.R_nil _ _ _ _ _ | exact Kd.N_nil _ _ _ _ _ | exact Kd.V_nil _ _ _ _ _ | exact Kd.Q_nil _ _ _ _ _ | exact Kd.S_nil _ _ _ _ _⟩, ⟨bkB⟩⟩
            case round =>
              clear H'
              try clear c1
              try clear c2
              try clear c2b0
              try clear p2
              try clear c4
              try clear c4b0
              try clear p5
              try clear q5
              try clear hx5
              try clear c6
              try clear c6b0
              try clear c6b1
              try clear p6
              try clear p7
              try clear q7
              try clear hx7
              try clear c8
              try clear c9
              try clear c9b0
              try clear c9b1
              try clear c10
              try clear c12
              try clear c12b0
              try clear c12b1
              try clear c13
              try clear c13b0
              try clear c13b1
              try clear c14
              try clear c14b0
              try clear c14b1
              try clear c15
              try clear c15b0
              try clear c15b1
              try clear c15b2
              try clear c17
              try clear c17b0
              try clear c17b1
              try clear c18
              try clear p2
              try clear p5
              try clear p6
              try clear p7
              try clear q5
              try clear q7
              obtain ⟨x6_3, x7_3, rfl, HA, HK3, HO_3, HO_6, HB⟩ := hrel
              cases gk with
              | zero => exact absurd HA.out (by simp [reredosref11_words.l1])
              | succ k3 =>
                have H := HA.out
                clear HA
                simp only [reredosref11_words.l1] at H
                refine iteE H ?_ ?_ <;> clear H <;> intro c20 H
                · have c20b0 : decide (x7_3 < (x3_15.length : Int)) = true := decide_eq_true c20
                  clear c20
                  refine iteE H ?_ ?_ <;> clear H <;> intro c21 H
                  · have c21b0 : decide (0 ≤ x7_3) = true := decide_eq_true c21
                    clear c21
                    refine bnd2 H ?_; clear H; intro t277 t278 A22 H; try dsimp only at H
                    refine iteE H ?_ ?_ <;> clear H <;> intro c23 H
                    · have LMc23 := Aside0.mk c23
                      clear c23
                      obtain ⟨y279, hy279⟩ : ∃ y_ : List ByteArray, y_ = (x6_3 ++ [t277]) := ⟨_, rfl⟩
                      replace H : (reredosref11_words.l1 k3 x3_15 y279 (wrap64 (x7_3 + 1))) = some r := by first | (rw [hy279]; with_reducible exact H) | (have H2_ := (Option.bind_some _ _).symm.trans H; rw [hy279]; with_reducible exact H2_) | (have H2_ := (Option.bind_some _ _).symm.trans H; with_reducible exact H2_) | with_reducible exact H | (rw [hy279]; exact H) | exact H
                      have Ny279 := Aside0.mk hy279
                      clear hy279
                      have H' := Aside0.mk H
                      clear H
                      obtain ⟨Ao24, co24, eo24⟩ := Kd.R_slice HO_3.out
                      subst eo24
                      have p276 : 0 ≤ (x7_3 : Int) := of_decide_eq_true (by first | (with_reducible assumption) | assumption)
                      have q276 : x7_3 < (x3_15.length : Int) := of_decide_eq_true (by first | (with_reducible assumption) | assumption)
                      obtain ⟨ad276, e276, hx276_0⟩ := Kd.at_string (Kd.R_reads' HO_3.out).2.2 x7_3 p276 q276
                      cases e276
                      replace p276 := eq_true p276
                      replace q276 := eq_true q276
                      go_wp2_with (first | ((with_reducible refine gate_callee (f := 181) rfl ?_); refine goesL_ (some 56) rfl rfl Tryz.func181 (by kernel_rfl) rfl #[.string (rdOf ByteArray.empty x3_15 x7_3)] rfl bkA ?_; (with_reducible refine (reredosref07_Number.calls k3 (rdOf ByteArray.empty x3_15 x7_3) t277 t278 _ A22.out).mono ?_); rintro e w' ⟨rfl, ⟨nd, rfl⟩⟩; refine ⟨_, rfl, ?_⟩) | ((with_reducible refine gate_builtin (b := .append) (xs := #[.tmp 59, .tmp 61]) rfl ?_); at_builtin; refine Kd.R_append Kd.string (w0 := w) w.heap.size rfl (.tmp 59) (.tmp 61) 23 9 (.string ⟨#[]⟩) 16 rfl Tryz.underlying23 info9 rfl (by decide) (by omega) u6 x6_3 t277 [.string t277] (fun k_ => some k_ ≠ (.slice (some ad276) x3_15.length co24 : Value).ownBlock) (fun _ => False) rfl rfl ?aP (fun _ hk => hk.elim) ?aF ?aO ?aB ?aS ?aL ?_; (case aP => exact rfl); (case aB => exact bkB); (case aF => exact (fun k_ hk => Kd.fresh' (Kd.R_lt (by (with_reducible repeat (first | apply Kd.R_alloc | apply Kd.R_drewN | apply Kd.R_drew)); exact HO_3.out)) k_ hk)); (case aO => exact (by (with_reducible repeat (first | apply Kd.R_alloc | apply Kd.R_drewN | apply Kd.R_drew)); exact HO_6.out)); (case aS => exact (below_size bkB)); (case aL => have := LMc23.out; omega); intro v280 w25 ho hb hg hat; rw [← Ny279.out] at ho; have n0_ := Aside0.mk (Kd.R_after (ok := (fun _ => True)) (by (with_reducible repeat (first | apply Kd.R_alloc | apply Kd.R_drewN | apply Kd.R_drew)); exact Kd.R_mono HO_3.out (fun _ hk => ⟨trivial, hk⟩)) hg hat); have n1_ := Aside0.mk (hb); have n2_ := Aside0.mk (ho); clear HO_3; clear HB; clear HO_6; have HO_3 := n0_; have HB := n1_; have HO281 := n2_; clear n0_ n1_ n2_; clear ho hb hg hat))
                      go_roundg k3
                      case measure => have := HK1.out; have := HJ15.out; have := HK3.out; omega
                      case rel => exact ⟨(y279), (wrap64 (x7_3 + 1)), bkF, H', ⟨by have := HK1.out; have := HJ15.out; have := HK3.out; omega⟩, ⟨by (with_reducible repeat (first | apply Kd.R_alloc | apply Kd.R_drewN | apply Kd.R_drew)); exact Kd.R_mono HO_3.out (fun _ hk => hk.2)⟩, ⟨by (with_reducible repeat (first | apply Kd.R_alloc | apply Kd.R_drewN | apply Kd.R_drew)); exact HO281.out⟩, ⟨bkB⟩⟩
                    · exact absurd H (by simp)
                  · exact absurd H (by simp)
                · have c20b0 : decide (x7_3 < (x3_15.length : Int)) = false := decide_eq_false c20
                  clear c20
                  obtain rfl := Option.some.inj H
                  obtain ⟨Ao26, co26, eo26⟩ := Kd.R_slice HO_3.out
                  subst eo26
                  go_wp2
                  go_ret
                  exact ⟨_, by first | rfl | (simp [errW_none, errW_some] <;> rfl) | (simp [*, errW_none, errW_some] <;> rfl), by (with_reducible repeat (first | apply Kd.R_alloc | apply Kd.R_drewN | apply Kd.R_drew)); exact Kd.R_mono HO_6.out (fun _ hk => trivial), bkB⟩
/-! ### reredosref11_guess: function 66 -/
mutual
def reredosref11_guess.j1 : Nat → ByteArray → Int → Option (List Int × List ByteArray)
  | 0, _, _ => none
  | k + 1, x0, x3 => if x0.toList = ([33, 48] : List UInt8) then (some ((([0] : List Int)), ([] : List ByteArray))) else (if x3 = (x0.size : Int) then ((reredosref11_words.f k x0).bind fun t286 => (if (t286.length : Int) = 1 then (if 0 < (x0.size : Int) then (if (bt x0 0) = 44 then (some ((([(t286.length : Int)] : List Int)), t286)) else (some (([] : List Int), t286))) else (none)) else (some ((([(t286.length : Int)] : List Int)), t286)))) else (if 0 ≤ x3 then (if x3 ≤ (x0.size : Int) then ((reredosref11_words.f k (x0.extract 0 (x3 : Int).toNat)).bind fun t296 => (reredosref11_guess.l1 k x0 x3 t296 0 ([] : List Int))) else (none)) else (none)))
def reredosref11_guess.l1 : Nat → ByteArray → Int → List ByteArray → Int → List Int → Option (List Int × List ByteArray)
  | 0, _, _, _, _, _ => none
  | k + 1, x0, x3, x6, x7, x296000 => if x7 < (x6.length : Int) then (if 0 ≤ x7 then ((Go.Proofs.YtcpaajecppplhaaGreatDoor.K.reredosref01_Int.f k (rdOf ByteArray.empty x6 x7)).bind fun bt300 => (if x296000.length < 17592186044416 then (reredosref11_guess.l1 k x0 x3 x6 (wrap64 (x7 + 1)) (x296000 ++ [bt300.1])) else (none))) else (none)) else (if 0 ≤ (wrap64 (x3 + 1)) then (if (wrap64 (x3 + 1)) ≤ (x0.size : Int) then (if (x0.extract ((wrap64 (x3 + 1)) : Int).toNat x0.size).toList = ([33, 48] : List UInt8) then (some (x296000, ([] : List ByteArray))) else ((reredosref11_words.f k (x0.extract ((wrap64 (x3 + 1)) : Int).toNat x0.size)).bind fun t305 => (some (x296000, t305)))) else (none)) else (none))
def reredosref11_guess.l0 : Nat → ByteArray → Int → Option (List Int × List ByteArray)
  | 0, _, _ => none
  | k + 1, x0, x3 => if x3 < (x0.size : Int) then (if 0 ≤ x3 then (if (bt x0 x3) = 35 then (reredosref11_guess.j1 k x0 x3) else (reredosref11_guess.l0 k x0 (wrap64 (x3 + 1)))) else (none)) else (reredosref11_guess.j1 k x0 x3)
end
def reredosref11_guess.f (k : Nat) (a0 : ByteArray) : Option (List Int × List ByteArray) := reredosref11_guess.l0 k a0 0
set_option maxHeartbeats 8000000 in
set_option maxRecDepth 100000 in
theorem reredosref11_guess.calls (k : Nat) (a0 : ByteArray) (r1 : List Int) (r2 : List ByteArray) (w : World) (h : reredosref11_guess.f k a0 = some (r1, r2)) :
    Calls Tryz.prog 66 #[.string a0] w fun e w' => ∃ v0_ v1_ : Value, e = .returned (.agg #[v0_, v1_]) ∧ Kd.R (Kd.int .i64) 3 w' w.heap.size (fun _ => True) v0_ r1 ∧ Kd.R Kd.string 9 w' w.heap.size (fun _ => True) v1_ r2 ∧ Below w.heap.size w w' := by
  have hu25 := Tryz.underlying25
  have HB := Aside0.mk (Below.refl w.heap.size w)
  have H : (reredosref11_guess.l0 k a0 0) = some (r1, r2) := h
  clear h
  have HC2 := Aside0.mk H
  clear H
  go_enter Tryz.func66, Tryz.ntmps66
  go_upto_block 0 with (first | ((with_reducible refine gate_dst (N := 2) rfl ?_); refine box_event ?hg (N := 2) ?hd (cs := #[.slice none 0 0, .slice none 0 0]) (t := 25) ?hr ?_; (case hd => rfl); (case hg => rfl); (case hr => first | (go_simp; done) | (go_simp; rfl)); intro gb282 hg w3 hbox hb; have n0_ := Aside0.mk (below_step bkB hb); have n1_ := Aside0.mk (hbox); have n2_ := Aside0.mk ((by rw [hg]; exact (below_size bkB) : w.heap.size ≤ gb282)); have n3_ := Aside0.mk ((by rw [hg]; exact (below_size bkB) : w.heap.size ≤ gb282)); clear HB; have HB := n0_; have BK282 := n1_; have GW282 := n2_; have GE282 := n3_; clear n0_ n1_ n2_ n3_; clear hb hbox hg))
  (try simp only [Act.put, List.setIfInBounds_toArray, List.set_cons_zero, List.set_cons_succ])
  go_cut [3] (fun v3 wc => ∃ (kq : Nat) (x3_1 : Int), v3 = .int .i64 x3_1 ∧ Aside0 (reredosref11_guess.j1 kq a0 x3_1 = some (r1, r2)) ∧ Aside0 (kq ≤ k) ∧ Aside0 (wc.heap[gb282]? = some (.cells #[(.slice none 0 0), (.slice none 0 0)] 25 (0, 0))) ∧ Aside0 (Below w.heap.size w wc))
  case first =>
    have H := HC2.out
    clear HC2
    have H' := Aside0.mk H
    clear H
    go_wp2
    go_loopg [3] k (fun kq v3 w' => ∃ (x3_1 : Int), v3 = .int .i64 x3_1 ∧ Aside0 (reredosref11_guess.l0 kq a0 x3_1 = some (r1, r2)) ∧ Aside0 (kq ≤ k) ∧ Aside0 (w'.heap[gb282]? = some (.cells #[(.slice none 0 0), (.slice none 0 0)] 25 (0, 0))) ∧ Aside0 (Below w.heap.size w w'))
    case atStart => exact ⟨(0), bkF, H', ⟨Nat.le_refl _⟩, ⟨by (with_reducible repeat (first | refine blk_drewN ?_ _ | refine blk_drew ?_ | refine blk_alloc ?_ _)); exact BK282.out⟩, ⟨by repeat (first | (with_reducible first | exact HB.out | apply below_alloc | apply pw_below_drewN | apply below_drew1 | refine below_set ?_ GE282.out) | exact HB.out)⟩⟩
    case round =>
      clear H'
      try clear p2
      obtain ⟨x3_1, rfl, HA, HK1, BK282, HB⟩ := hrel
      cases gk with
      | zero => exact absurd HA.out (by simp [reredosref11_guess.l0])
      | succ k1 =>
        have H := HA.out
        clear HA
        simp only [reredosref11_guess.l0] at H
        refine iteE H ?_ ?_ <;> clear H <;> intro c4 H
        · have c4b0 : decide (x3_1 < (a0.size : Int)) = true := decide_eq_true c4
          clear c4
          (first | rw [c4b0] | (simp only [i64_w, i32_w]; rw [c4b0]) | skip)
          refine iteE H ?_ ?_ <;> clear H <;> intro c5 H
          · have c5b0 : decide (0 ≤ x3_1) = true := decide_eq_true c5
            clear c5
            refine iteE H ?_ ?_ <;> clear H <;> intro c7 H
            · have c7b0 : ((bt a0 x3_1) == 35) = true := beq_iff_eq.mpr c7
              have c7b1 : ((bt a0 x3_1) != 35) = false := bne_eq_false_iff_eq.mpr c7
              clear c7
              have H' := Aside0.mk H
              clear H
              have p6 : 0 ≤ (x3_1 : Int) := of_decide_eq_true (by first | (with_reducible assumption) | assumption)
              have q6 : x3_1 < (a0.size : Int) := of_decide_eq_true (by first | (with_reducible assumption) | assumption)
              have hx6 := bt_at a0 x3_1
              replace p6 := eq_true p6
              replace q6 := eq_true q6
              go_wp2
              go_meet
              case rel => exact ⟨_, (x3_1), bkF, H', ⟨by have := HK1.out; first | omega | exact Nat.le_refl _⟩, ⟨by (with_reducible repeat (first | refine blk_drewN ?_ _ | refine blk_drew ?_ | refine blk_alloc ?_ _)); exact BK282.out⟩, ⟨by repeat (first | (with_reducible first | exact HB.out | apply below_alloc | apply pw_below_drewN | apply below_drew1 | refine below_set ?_ GE282.out) | exact HB.out)⟩⟩
            · have c7b0 : ((bt a0 x3_1) == 35) = false := beq_eq_false_iff_ne.mpr c7
              have c7b1 : ((bt a0 x3_1) != 35) = true := bne_iff_ne.mpr c7
              have H' := Aside0.mk H
              clear H
              have p6 : 0 ≤ (x3_1 : Int) := of_decide_eq_true (by first | (with_reducible assumption) | assumption)
              have q6 : x3_1 < (a0.size : Int) := of_decide_eq_true (by first | (with_reducible assumption) | assumption)
              have hx6 := bt_at a0 x3_1
              replace p6 := eq_true p6
              replace q6 := eq_true q6
              go_wp2
              go_roundg k1
              case measure => have := HK1.out; omega
              case rel => exact ⟨(wrap64 (x3_1 + 1)), bkF, H', ⟨by have := HK1.out; omega⟩, ⟨by (with_reducible repeat (first | refine blk_drewN ?_ _ | refine blk_drew ?_ | refine blk_alloc ?_ _)); exact BK282.out⟩, ⟨by repeat (first | (with_reducible first | exact HB.out | apply below_alloc | apply pw_below_drewN | apply below_drew1 | refine below_set ?_ GE282.out) | exact HB.out)⟩⟩
          · exact absurd H (by simp)
        · have c4b0 : decide (x3_1 < (a0.size : Int)) = false := decide_eq_false c4
          clear c4
          (first | rw [c4b0] | (simp only [i64_w, i32_w]; rw [c4b0]) | skip)
          have H' := Aside0.mk H
          clear H
          go_wp2
          go_meet
          case rel => exact ⟨_, (x3_1), bkF, H', ⟨by have := HK1.out; first | omega | exact Nat.le_refl _⟩, ⟨by (with_reducible repeat (first | refine blk_drewN ?_ _ | refine blk_drew ?_ | refine blk_alloc ?_ _)); exact BK282.out⟩, ⟨by repeat (first | (with_reducible first | exact HB.out | apply below_alloc | apply pw_below_drewN | apply below_drew1 | refine below_set ?_ GE282.out) | exact HB.out)⟩⟩
  case rest =>
    clear HC2
    try clear p2
    try clear c4
    try clear c4b0
    try clear c5
    try clear c5b0
    try clear c6
    try clear p6
    try clear q6
    try clear hx6
    try clear c7
    try clear c7b0
    try clear c7b1
    try clear p2
    try clear p6
    try clear q6
    obtain ⟨kq, x3_1, rfl, HA, HJ1, BK282, HB⟩ := hcut
    cases kq with
    | zero => exact absurd HA.out (by simp [reredosref11_guess.j1])
    | succ kj1 =>
      have H := HA.out
      clear HA
      simp only [reredosref11_guess.j1] at H
      refine iteE H ?_ ?_ <;> clear H <;> intro c8 H
      · have c8b0 : (a0.toList == ([33, 48] : List UInt8)) = true := beq_iff_eq.mpr c8
        have c8b1 : (a0.toList != ([33, 48] : List UInt8)) = false := bne_eq_false_iff_eq.mpr c8
        clear c8
        obtain ⟨y283, hy283⟩ : ∃ y_ : List Int, y_ = (([0] : List Int)) := ⟨_, rfl⟩
        replace H : (some (y283, ([] : List ByteArray))) = some (r1, r2) := by first | (rw [hy283]; with_reducible exact H) | (have H2_ := (Option.bind_some _ _).symm.trans H; rw [hy283]; with_reducible exact H2_) | (have H2_ := (Option.bind_some _ _).symm.trans H; with_reducible exact H2_) | with_reducible exact H | (rw [hy283]; exact H) | exact H
        have Ny283 := Aside0.mk hy283
        clear hy283
        simp only [Option.some.injEq, Prod.mk.injEq] at H
        obtain ⟨rfl, rfl⟩ := H
        go_wp2_with (first | ((with_reducible refine gate_dst (N := 24) rfl ?_); refine Kd.R_lit (Kd.int .i64) _ 3 ?hg (N := 24) ?hd (xs := ([0] : List Int)) (inner := [.int .i64 0]) (ok := fun _ => True) (okp := fun _ => True) ?hr ?hp (fun _ hk => hk) trivial (Below.refl _ _) (Nat.le_refl _) (by simp) ?_; (case hd => rfl); (case hg => rfl); (case hr => first | (go_simp; done) | (go_simp; rfl)); (case hp => exact (Reps.one (show Kd.M (Kd.int .i64) _ _ _ 0 [.int .i64 0] from rfl) (Reps.none _ _))); intro v284 w9 ho10 hb hg_ hnew_; clear hg_ hnew_; (first | rw [← Ny283.out] at ho10 | (simp only [Int.reduceToNat] at ho10; rw [← Ny283.out] at ho10)); have n0_ := Aside0.mk (Kd.R_lower ho10 (below_size (by repeat (first | (with_reducible first | exact HB.out | apply below_alloc | apply pw_below_drewN | apply below_drew1 | refine below_set ?_ GE282.out) | exact HB.out)))); have n1_ := Aside0.mk (blk_below (g := gb282) (o := .cells #[.slice none 0 0, .slice none 0 0] 25 (0, 0)) (by (with_reducible repeat (first | refine blk_drewN ?_ _ | refine blk_drew ?_ | refine blk_alloc ?_ _)); exact BK282.out) hb); have n2_ := Aside0.mk (below_step (by repeat (first | (with_reducible first | exact HB.out | apply below_alloc | apply pw_below_drewN | apply below_drew1 | refine below_set ?_ GE282.out) | exact HB.out)) hb); clear BK282; clear HB; have HO285 := n0_; have BK282 := n1_; have HB := n2_; clear n0_ n1_ n2_; clear hb ho10; obtain ⟨Ao11, co11, eo11⟩ := Kd.R_slice HO285.out; subst eo11; have hcz12_0 : w9.cell? ⟨gb282, 0, none⟩ = some (.slice none 0 0) := (blk_cell BK282.out 0).trans rfl; have hcz12_1 : w9.cell? ⟨gb282, 1, none⟩ = some (.slice none 0 0) := (blk_cell BK282.out 1).trans rfl; have hfz12_0 := blk_frozen BK282.out 0; have hfz12_1 := blk_frozen BK282.out 1))
        refine bodyPost_ret (results_cell_row rfl _ _ gb282 25 #[.slice Ao11 y283.length co11, .slice none 0 0] (0, 0) _ rfl (by (with_reducible repeat (first | refine blk_drewN ?_ _ | refine blk_drew ?_ | refine blk_alloc ?_ _)); refine blk_put (cs := #[.slice Ao11 y283.length co11, .slice none 0 0]) ?_ 1 _ rfl; (with_reducible repeat (first | refine blk_drewN ?_ _ | refine blk_drew ?_ | refine blk_alloc ?_ _)); refine blk_put (cs := #[.slice none 0 0, .slice none 0 0]) ?_ 0 _ rfl; (with_reducible repeat (first | refine blk_drewN ?_ _ | refine blk_drew ?_ | refine blk_alloc ?_ _)); exact BK282.out) Tryz.underlying25 rfl (by kernel_rfl)) rfl ?_
        exact ⟨_, _, by first | rfl | (simp [errW_none, errW_some] <;> rfl) | (simp [*, errW_none, errW_some] <;> rfl), by (with_reducible repeat (first | apply Kd.R_alloc | apply Kd.R_drewN | apply Kd.R_drew)); exact Kd.R_mono (Kd.R_far (p := ⟨gb282, 1, none⟩) (Kd.R_far (p := ⟨gb282, 0, none⟩) (Kd.R_types HO285.out BK282.out (by decide)) (fun _ hk => hk.2) (.slice Ao11 y283.length co11)) (fun _ hk => hk.2) (.slice none 0 0)) (fun _ hk => trivial), by first | exact Kd.R_nil _ _ _ _ _ | exact Kd.N_nil _ _ _ _ _ | exact Kd.V_nil _ _ _ _ _ | exact Kd.Q_nil _ _ _ _ _ | exact Kd.S_nil _ _ _ _ _, by repeat (first | (with_reducible first | exact HB.out | apply below_alloc | apply pw_below_drewN | apply below_drew1 | refine below_set ?_ GE282.out) | exact HB.out)⟩
      · have c8b0 : (a0.toList == ([33, 48] : List UInt8)) = false := beq_eq_false_iff_ne.mpr c8
        have c8b1 : (a0.toList != ([33, 48] : List UInt8)) = true := bne_iff_ne.mpr c8
        refine iteE H ?_ ?_ <;> clear H <;> intro c13 H
        · have c13b0 : (x3_1 == (a0.size : Int)) = true := beq_iff_eq.mpr c13
          have c13b1 : (x3_1 != (a0.size : Int)) = false := bne_eq_false_iff_eq.mpr c13
          clear c13
          refine bnd H ?_; clear H; intro t286 A14 H
          refine iteE H ?_ ?_ <;> clear H <;> intro c15 H
          · have c15b0 : ((t286.length : Int) == 1) = true := beq_iff_eq.mpr c15
            have c15b1 : ((t286.length : Int) != 1) = false := bne_eq_false_iff_eq.mpr c15
            clear c15
            refine iteE H ?_ ?_ <;> clear H <;> intro c16 H
            · have c16b0 : decide (0 < (a0.size : Int)) = true := decide_eq_true c16
              have c16b1 : decide (0 < a0.size) = true := decide_eq_true (by omega)
              clear c16
              refine iteE H ?_ ?_ <;> clear H <;> intro c18 H
              · have c18b0 : ((bt a0 0) == 44) = true := beq_iff_eq.mpr c18
                have c18b1 : ((bt a0 0) != 44) = false := bne_eq_false_iff_eq.mpr c18
                clear c18
                obtain ⟨y289, hy289⟩ : ∃ y_ : List Int, y_ = (([(t286.length : Int)] : List Int)) := ⟨_, rfl⟩
                replace H : (some (y289, t286)) = some (r1, r2) := by first | (rw [hy289]; with_reducible exact H) | (have H2_ := (Option.bind_some _ _).symm.trans H; rw [hy289]; with_reducible exact H2_) | (have H2_ := (Option.bind_some _ _).symm.trans H; with_reducible exact H2_) | with_reducible exact H | (rw [hy289]; exact H) | exact H
                have Ny289 := Aside0.mk hy289
                clear hy289
                simp only [Option.some.injEq, Prod.mk.injEq] at H
                obtain ⟨rfl, rfl⟩ := H
                go_wp2_with (first | ((with_reducible refine gate_callee (f := 130) rfl ?_); refine goesL_ (some 31) rfl rfl Tryz.func130 (by kernel_rfl) rfl #[.string a0] rfl bkA ?_; (with_reducible refine (reredosref11_words.calls kj1 a0 t286 _ A14.out).mono ?_); rintro e w19 ⟨v287, rfl, ho0, hb⟩; refine ⟨_, rfl, ?_⟩; have n0_ := Aside0.mk (Kd.R_lower ho0 (below_size (by repeat (first | (with_reducible first | exact HB.out | apply below_alloc | apply pw_below_drewN | apply below_drew1 | refine below_set ?_ GE282.out) | exact HB.out)))); have n1_ := Aside0.mk (blk_below (g := gb282) (o := .cells #[.slice none 0 0, .slice none 0 0] 25 (0, 0)) (by (with_reducible repeat (first | refine blk_drewN ?_ _ | refine blk_drew ?_ | refine blk_alloc ?_ _)); exact BK282.out) hb); have n2_ := Aside0.mk (below_step (by repeat (first | (with_reducible first | exact HB.out | apply below_alloc | apply pw_below_drewN | apply below_drew1 | refine below_set ?_ GE282.out) | exact HB.out)) hb); clear BK282; clear HB; have HO288 := n0_; have BK282 := n1_; have HB := n2_; clear n0_ n1_ n2_; (try clear hb); (try clear hb2); (try clear hk); (try clear hi); (try clear ho0); obtain ⟨Ao20, co20, eo20⟩ := Kd.R_slice HO288.out; subst eo20; have p17 : 0 ≤ (0 : Int) := (by omega); have q17 : 0 < a0.size := (by have : (0 : Int) < (a0.size : Int) := of_decide_eq_true (by first | (with_reducible assumption) | assumption); omega); have hx17 : ∀ h : 0 < a0.size, ((a0[0]'h).toNat : Int) = bt a0 0 := bt_at a0 0; clear p17; have qi17 : (0 < (a0.size : Int)) = True := eq_true (of_decide_eq_true (by first | (with_reducible assumption) | assumption)); replace q17 := eq_true q17) | ((with_reducible refine gate_dst (N := 44) rfl ?_); refine Kd.R_lit (Kd.int .i64) _ 3 ?hg (N := 44) ?hd (xs := ([(t286.length : Int)] : List Int)) (inner := [.int .i64 (t286.length : Int)]) (ok := fun _ => True) (okp := fun _ => True) ?hr ?hp (fun _ hk => hk) trivial (Below.refl _ _) (Nat.le_refl _) (by simp) ?_; (case hd => rfl); (case hg => rfl); (case hr => first | (go_simp; done) | (go_simp; rfl)); (case hp => exact (Reps.one (show Kd.M (Kd.int .i64) _ _ _ (t286.length : Int) [.int .i64 (t286.length : Int)] from rfl) (Reps.none _ _))); intro v290 w21 ho22 hb hg_ hnew_; clear hg_ hnew_; (first | rw [← Ny289.out] at ho22 | (simp only [Int.reduceToNat] at ho22; rw [← Ny289.out] at ho22)); have n0_ := Aside0.mk (Kd.R_below (by (with_reducible repeat (first | apply Kd.R_alloc | apply Kd.R_drewN | apply Kd.R_drew)); exact HO288.out) hb); have n1_ := Aside0.mk (Kd.R_lower ho22 (below_size (by repeat (first | (with_reducible first | exact HB.out | apply below_alloc | apply pw_below_drewN | apply below_drew1 | refine below_set ?_ GE282.out) | exact HB.out)))); have n2_ := Aside0.mk (blk_below (g := gb282) (o := .cells #[.slice none 0 0, .slice none 0 0] 25 (0, 0)) (by (with_reducible repeat (first | refine blk_drewN ?_ _ | refine blk_drew ?_ | refine blk_alloc ?_ _)); exact BK282.out) hb); have n3_ := Aside0.mk (below_step (by repeat (first | (with_reducible first | exact HB.out | apply below_alloc | apply pw_below_drewN | apply below_drew1 | refine below_set ?_ GE282.out) | exact HB.out)) hb); clear HO288; clear BK282; clear HB; have HO288 := n0_; have HO291 := n1_; have BK282 := n2_; have HB := n3_; clear n0_ n1_ n2_ n3_; clear hb ho22; obtain ⟨Ao23, co23, eo23⟩ := Kd.R_slice HO291.out; subst eo23; have hcz24_0 : w21.cell? ⟨gb282, 0, none⟩ = some (.slice none 0 0) := (blk_cell BK282.out 0).trans rfl; have hcz24_1 : w21.cell? ⟨gb282, 1, none⟩ = some (.slice none 0 0) := (blk_cell BK282.out 1).trans rfl; have hfz24_0 := blk_frozen BK282.out 0; have hfz24_1 := blk_frozen BK282.out 1))
                refine bodyPost_ret (results_cell_row rfl _ _ gb282 25 #[.slice Ao23 y289.length co23, .slice Ao20 t286.length co20] (0, 0) _ rfl (by (with_reducible repeat (first | refine blk_drewN ?_ _ | refine blk_drew ?_ | refine blk_alloc ?_ _)); refine blk_put (cs := #[.slice Ao23 y289.length co23, .slice none 0 0]) ?_ 1 _ rfl; (with_reducible repeat (first | refine blk_drewN ?_ _ | refine blk_drew ?_ | refine blk_alloc ?_ _)); refine blk_put (cs := #[.slice none 0 0, .slice none 0 0]) ?_ 0 _ rfl; (with_reducible repeat (first | refine blk_drewN ?_ _ | refine blk_drew ?_ | refine blk_alloc ?_ _)); exact BK282.out) Tryz.underlying25 rfl (by kernel_rfl)) rfl ?_
                exact ⟨_, _, by first | rfl | (simp [errW_none, errW_some] <;> rfl) | (simp [*, errW_none, errW_some] <;> rfl), by (with_reducible repeat (first | apply Kd.R_alloc | apply Kd.R_drewN | apply Kd.R_drew)); exact Kd.R_mono (Kd.R_far (p := ⟨gb282, 1, none⟩) (Kd.R_far (p := ⟨gb282, 0, none⟩) (Kd.R_types HO291.out BK282.out (by decide)) (fun _ hk => hk.2) (.slice Ao23 y289.length co23)) (fun _ hk => hk.2) (.slice Ao20 t286.length co20)) (fun _ hk => trivial), by (with_reducible repeat (first | apply Kd.R_alloc | apply Kd.R_drewN | apply Kd.R_drew)); exact Kd.R_mono (Kd.R_far (p := ⟨gb282, 1, none⟩) (Kd.R_far (p := ⟨gb282, 0, none⟩) (Kd.R_types HO288.out BK282.out (by decide)) (fun _ hk => hk.2) (.slice Ao23 y289.length co23)) (fun _ hk => hk.2) (.slice Ao20 t286.length co20)) (fun _ hk => trivial), by repeat (first | (with_reducible first | exact HB.out | apply below_alloc | apply pw_below_drewN | apply below_drew1 | refine below_set ?_ GE282.out) | exact HB.out)⟩
              · have c18b0 : ((bt a0 0) == 44) = false := beq_eq_false_iff_ne.mpr c18
                have c18b1 : ((bt a0 0) != 44) = true := bne_iff_ne.mpr c18
                simp only [Option.some.injEq, Prod.mk.injEq] at H
                obtain ⟨rfl, rfl⟩ := H
                go_wp2_with (first | ((with_reducible refine gate_callee (f := 130) rfl ?_); refine goesL_ (some 31) rfl rfl Tryz.func130 (by kernel_rfl) rfl #[.string a0] rfl bkA ?_; (with_reducible refine (reredosref11_words.calls kj1 a0 t286 _ A14.out).mono ?_); rintro e w25 ⟨v287, rfl, ho0, hb⟩; refine ⟨_, rfl, ?_⟩; have n0_ := Aside0.mk (Kd.R_lower ho0 (below_size (by repeat (first | (with_reducible first | exact HB.out | apply below_alloc | apply pw_below_drewN | apply below_drew1 | refine below_set ?_ GE282.out) | exact HB.out)))); have n1_ := Aside0.mk (blk_below (g := gb282) (o := .cells #[.slice none 0 0, .slice none 0 0] 25 (0, 0)) (by (with_reducible repeat (first | refine blk_drewN ?_ _ | refine blk_drew ?_ | refine blk_alloc ?_ _)); exact BK282.out) hb); have n2_ := Aside0.mk (below_step (by repeat (first | (with_reducible first | exact HB.out | apply below_alloc | apply pw_below_drewN | apply below_drew1 | refine below_set ?_ GE282.out) | exact HB.out)) hb); clear BK282; clear HB; have HO288 := n0_; have BK282 := n1_; have HB := n2_; clear n0_ n1_ n2_; (try clear hb); (try clear hb2); (try clear hk); (try clear hi); (try clear ho0); obtain ⟨Ao26, co26, eo26⟩ := Kd.R_slice HO288.out; subst eo26; have p17 : 0 ≤ (0 : Int) := (by omega); have q17 : 0 < a0.size := (by have : (0 : Int) < (a0.size : Int) := of_decide_eq_true (by first | (with_reducible assumption) | assumption); omega); have hx17 : ∀ h : 0 < a0.size, ((a0[0]'h).toNat : Int) = bt a0 0 := bt_at a0 0; clear p17; have qi17 : (0 < (a0.size : Int)) = True := eq_true (of_decide_eq_true (by first | (with_reducible assumption) | assumption)); replace q17 := eq_true q17; have hcz27_0 : w25.cell? ⟨gb282, 0, none⟩ = some (.slice none 0 0) := (blk_cell BK282.out 0).trans rfl; have hcz27_1 : w25.cell? ⟨gb282, 1, none⟩ = some (.slice none 0 0) := (blk_cell BK282.out 1).trans rfl; have hfz27_0 := blk_frozen BK282.out 0; have hfz27_1 := blk_frozen BK282.out 1))
                refine bodyPost_ret (results_cell_row rfl _ _ gb282 25 #[.slice none 0 0, .slice Ao26 t286.length co26] (0, 0) _ rfl (by (with_reducible repeat (first | refine blk_drewN ?_ _ | refine blk_drew ?_ | refine blk_alloc ?_ _)); refine blk_put (cs := #[.slice none 0 0, .slice none 0 0]) ?_ 1 _ rfl; (with_reducible repeat (first | refine blk_drewN ?_ _ | refine blk_drew ?_ | refine blk_alloc ?_ _)); refine blk_put (cs := #[.slice none 0 0, .slice none 0 0]) ?_ 0 _ rfl; (with_reducible repeat (first | refine blk_drewN ?_ _ | refine blk_drew ?_ | refine blk_alloc ?_ _)); exact BK282.out) Tryz.underlying25 rfl (by kernel_rfl)) rfl ?_
                exact ⟨_, _, by first | rfl | (simp [errW_none, errW_some] <;> rfl) | (simp [*, errW_none, errW_some] <;> rfl), by first | exact Kd.R_nil _ _ _ _ _ | exact Kd.N_nil _ _ _ _ _ | exact Kd.V_nil _ _ _ _ _ | exact Kd.Q_nil _ _ _ _ _ | exact Kd.S_nil _ _ _ _ _, by (with_reducible repeat (first | apply Kd.R_alloc | apply Kd.R_drewN | apply Kd.R_drew)); exact Kd.R_mono (Kd.R_far (p := ⟨gb282, 1, none⟩) (Kd.R_far (p := ⟨gb282, 0, none⟩) (Kd.R_types HO288.out BK282.out (by decide)) (fun _ hk => hk.2) (.slice none 0 0)) (fun _ hk => hk.2) (.slice Ao26 t286.length co26)) (fun _ hk => trivial), by repeat (first | (with_reducible first | exact HB.out | apply below_alloc | apply pw_below_drewN | apply below_drew1 | refine below_set ?_ GE282.out) | exact HB.out)⟩
            · exact absurd H (by simp)
          · have c15b0 : ((t286.length : Int) == 1) = false := beq_eq_false_iff_ne.mpr c15
            have c15b1 : ((t286.length : Int) != 1) = true := bne_iff_ne.mpr c15
            obtain ⟨y292, hy292⟩ : ∃ y_ : List Int, y_ = (([(t286.length : Int)] : List Int)) := ⟨_, rfl⟩
            replace H : (some (y292, t286)) = some (r1, r2) := by first | (rw [hy292]; with_reducible exact H) | (have H2_ := (Option.bind_some _ _).symm.trans H; rw [hy292]; with_reducible exact H2_) | (have H2_ := (Option.bind_some _ _).symm.trans H; with_reducible exact H2_) | with_reducible exact H | (rw [hy292]; exact H) | exact H
            have Ny292 := Aside0.mk hy292
            clear hy292
            simp only [Option.some.injEq, Prod.mk.injEq] at H
            obtain ⟨rfl, rfl⟩ := H
            go_wp2_with (first | ((with_reducible refine gate_callee (f := 130) rfl ?_); refine goesL_ (some 31) rfl rfl Tryz.func130 (by kernel_rfl) rfl #[.string a0] rfl bkA ?_; (with_reducible refine (reredosref11_words.calls kj1 a0 t286 _ A14.out).mono ?_); rintro e w28 ⟨v287, rfl, ho0, hb⟩; refine ⟨_, rfl, ?_⟩; have n0_ := Aside0.mk (Kd.R_lower ho0 (below_size (by repeat (first | (with_reducible first | exact HB.out | apply below_alloc | apply pw_below_drewN | apply below_drew1 | refine below_set ?_ GE282.out) | exact HB.out)))); have n1_ := Aside0.mk (blk_below (g := gb282) (o := .cells #[.slice none 0 0, .slice none 0 0] 25 (0, 0)) (by (with_reducible repeat (first | refine blk_drewN ?_ _ | refine blk_drew ?_ | refine blk_alloc ?_ _)); exact BK282.out) hb); have n2_ := Aside0.mk (below_step (by repeat (first | (with_reducible first | exact HB.out | apply below_alloc | apply pw_below_drewN | apply below_drew1 | refine below_set ?_ GE282.out) | exact HB.out)) hb); clear BK282; clear HB; have HO288 := n0_; have BK282 := n1_; have HB := n2_; clear n0_ n1_ n2_; (try clear hb); (try clear hb2); (try clear hk); (try clear hi); (try clear ho0); obtain ⟨Ao29, co29, eo29⟩ := Kd.R_slice HO288.out; subst eo29) | ((with_reducible refine gate_dst (N := 44) rfl ?_); refine Kd.R_lit (Kd.int .i64) _ 3 ?hg (N := 44) ?hd (xs := ([(t286.length : Int)] : List Int)) (inner := [.int .i64 (t286.length : Int)]) (ok := fun _ => True) (okp := fun _ => True) ?hr ?hp (fun _ hk => hk) trivial (Below.refl _ _) (Nat.le_refl _) (by simp) ?_; (case hd => rfl); (case hg => rfl); (case hr => first | (go_simp; done) | (go_simp; rfl)); (case hp => exact (Reps.one (show Kd.M (Kd.int .i64) _ _ _ (t286.length : Int) [.int .i64 (t286.length : Int)] from rfl) (Reps.none _ _))); intro v293 w30 ho31 hb hg_ hnew_; clear hg_ hnew_; (first | rw [← Ny292.out] at ho31 | (simp only [Int.reduceToNat] at ho31; rw [← Ny292.out] at ho31)); have n0_ := Aside0.mk (Kd.R_below (by (with_reducible repeat (first | apply Kd.R_alloc | apply Kd.R_drewN | apply Kd.R_drew)); exact HO288.out) hb); have n1_ := Aside0.mk (Kd.R_lower ho31 (below_size (by repeat (first | (with_reducible first | exact HB.out | apply below_alloc | apply pw_below_drewN | apply below_drew1 | refine below_set ?_ GE282.out) | exact HB.out)))); have n2_ := Aside0.mk (blk_below (g := gb282) (o := .cells #[.slice none 0 0, .slice none 0 0] 25 (0, 0)) (by (with_reducible repeat (first | refine blk_drewN ?_ _ | refine blk_drew ?_ | refine blk_alloc ?_ _)); exact BK282.out) hb); have n3_ := Aside0.mk (below_step (by repeat (first | (with_reducible first | exact HB.out | apply below_alloc | apply pw_below_drewN | apply below_drew1 | refine below_set ?_ GE282.out) | exact HB.out)) hb); clear HO288; clear BK282; clear HB; have HO288 := n0_; have HO294 := n1_; have BK282 := n2_; have HB := n3_; clear n0_ n1_ n2_ n3_; clear hb ho31; obtain ⟨Ao32, co32, eo32⟩ := Kd.R_slice HO294.out; subst eo32; have hcz33_0 : w30.cell? ⟨gb282, 0, none⟩ = some (.slice none 0 0) := (blk_cell BK282.out 0).trans rfl; have hcz33_1 : w30.cell? ⟨gb282, 1, none⟩ = some (.slice none 0 0) := (blk_cell BK282.out 1).trans rfl; have hfz33_0 := blk_frozen BK282.out 0; have hfz33_1 := blk_frozen BK282.out 1))
            refine bodyPost_ret (results_cell_row rfl _ _ gb282 25 #[.slice Ao32 y292.length co32, .slice Ao29 t286.length co29] (0, 0) _ rfl (by (with_reducible repeat (first | refine blk_drewN ?_ _ | refine blk_drew ?_ | refine blk_alloc ?_ _)); refine blk_put (cs := #[.slice Ao32 y292.length co32, .slice none 0 0]) ?_ 1 _ rfl; (with_reducible repeat (first | refine blk_drewN ?_ _ | refine blk_drew ?_ | refine blk_alloc ?_ _)); refine blk_put (cs := #[.slice none 0 0, .slice none 0 0]) ?_ 0 _ rfl; (with_reducible repeat (first | refine blk_drewN ?_ _ | refine blk_drew ?_ | refine blk_alloc ?_ _)); exact BK282.out) Tryz.underlying25 rfl (by kernel_rfl)) rfl ?_
            exact ⟨_, _, by first | rfl | (simp [errW_none, errW_some] <;> rfl) | (simp [*, errW_none, errW_some] <;> rfl), by (with_reducible repeat (first | apply Kd.R_alloc | apply Kd.R_drewN | apply Kd.R_drew)); exact Kd.R_mono (Kd.R_far (p := ⟨gb282, 1, none⟩) (Kd.R_far (p := ⟨gb282, 0, none⟩) (Kd.R_types HO294.out BK282.out (by decide)) (fun _ hk => hk.2) (.slice Ao32 y292.length co32)) (fun _ hk => hk.2) (.slice Ao29 t286.length co29)) (fun _ hk => trivial), by (with_reducible repeat (first | apply Kd.R_alloc | apply Kd.R_drewN | apply Kd.R_drew)); exact Kd.R_mono (Kd.R_far (p := ⟨gb282, 1, none⟩) (Kd.R_far (p := ⟨gb282, 0, none⟩) (Kd.R_types HO288.out BK282.out (by decide)) (fun _ hk => hk.2) (.slice Ao32 y292.length co32)) (fun _ hk => hk.2) (.slice Ao29 t286.length co29)) (fun _ hk => trivial), by repeat (first | (with_reducible first | exact HB.out | apply below_alloc | apply pw_below_drewN | apply below_drew1 | refine below_set ?_ GE282.out) | exact HB.out)⟩
        · have c13b0 : (x3_1 == (a0.size : Int)) = false := beq_eq_false_iff_ne.mpr c13
          have c13b1 : (x3_1 != (a0.size : Int)) = true := bne_iff_ne.mpr c13
          refine iteE H ?_ ?_ <;> clear H <;> intro c34 H
          · have c34b0 := eq_true c34
            have c34b1 : decide (0 ≤ x3_1) = true := decide_eq_true c34
            clear c34
            refine iteE H ?_ ?_ <;> clear H <;> intro c35 H
            · have c35b0 := eq_true c35
              have c35b1 : decide (x3_1 ≤ (a0.size : Int)) = true := decide_eq_true c35
              clear c35
              refine bnd H ?_; clear H; intro t296 A36 H
              have H' := Aside0.mk H
              clear H
              go_wp2_with (first | ((with_reducible refine gate_dst (N := 5) rfl ?_); refine box_event ?hg (N := 5) ?hd (cs := #[.slice none 0 0, .slice none 0 0]) (t := 25) ?hr ?_; (case hd => rfl); (case hg => rfl); (case hr => first | (go_simp; done) | (go_simp; rfl)); intro gb295 hg w37 hbox hb; have n0_ := Aside0.mk (blk_below (g := gb282) (o := .cells #[.slice none 0 0, .slice none 0 0] 25 (0, 0)) (by (with_reducible repeat (first | refine blk_drewN ?_ _ | refine blk_drew ?_ | refine blk_alloc ?_ _)); exact BK282.out) hb); have n1_ := Aside0.mk (below_step (by repeat (first | (with_reducible first | exact HB.out | apply below_alloc | apply pw_below_drewN | apply below_drew1 | refine below_set ?_ GE282.out) | exact HB.out)) hb); have n2_ := Aside0.mk (hbox); have n3_ := Aside0.mk ((by rw [hg]; exact (below_size (by repeat (first | (with_reducible first | exact HB.out | apply below_alloc | apply pw_below_drewN | apply below_drew1 | refine below_set ?_ GE282.out) | exact HB.out))) : w.heap.size ≤ gb295)); have n4_ := Aside0.mk ((by rw [hg]; exact (below_size (by repeat (first | (with_reducible first | exact HB.out | apply below_alloc | apply pw_below_drewN | apply below_drew1 | refine below_set ?_ GE282.out) | exact HB.out))) : w.heap.size ≤ gb295)); have n5_ := Aside0.mk ((by rw [hg]; exact Nat.ne_of_lt (blk_lt (g := gb282) (o := .cells #[.slice none 0 0, .slice none 0 0] 25 (0, 0)) (by (with_reducible repeat (first | refine blk_drewN ?_ _ | refine blk_drew ?_ | refine blk_alloc ?_ _)); exact BK282.out)) : gb282 ≠ gb295)); have n6_ := Aside0.mk ((by rw [hg]; exact Nat.ne_of_gt (blk_lt (g := gb282) (o := .cells #[.slice none 0 0, .slice none 0 0] 25 (0, 0)) (by (with_reducible repeat (first | refine blk_drewN ?_ _ | refine blk_drew ?_ | refine blk_alloc ?_ _)); exact BK282.out)) : gb295 ≠ gb282)); clear BK282; clear HB; have BK282 := n0_; have HB := n1_; have BK295 := n2_; have GW295 := n3_; have GE295 := n4_; have NB282_295 := n5_; have NB295_282 := n6_; clear n0_ n1_ n2_ n3_ n4_ n5_ n6_; clear hb hbox hg; have hnb38 := NB295_282.out; have hnc38 := NB282_295.out; have hcz39_0 : w37.cell? ⟨gb295, 0, none⟩ = some (.slice none 0 0) := (blk_cell BK295.out 0).trans rfl; have hcz39_1 : w37.cell? ⟨gb295, 1, none⟩ = some (.slice none 0 0) := (blk_cell BK295.out 1).trans rfl; have hfz39_0 := blk_frozen BK295.out 0; have hfz39_1 := blk_frozen BK295.out 1) | ((with_reducible refine gate_callee (f := 130) rfl ?_); refine goesL_ (some 51) rfl rfl Tryz.func130 (by kernel_rfl) rfl #[.string (a0.extract 0 (x3_1 : Int).toNat)] rfl bkA ?_; (with_reducible refine (reredosref11_words.calls kj1 (a0.extract 0 (x3_1 : Int).toNat) t296 _ A36.out).mono ?_); rintro e w40 ⟨v297, rfl, ho0, hb⟩; refine ⟨_, rfl, ?_⟩; have n0_ := Aside0.mk (Kd.R_lower ho0 (below_size (by repeat (first | (with_reducible first | exact HB.out | apply below_alloc | apply pw_below_drewN | apply below_drew1 | refine below_set ?_ GE282.out | refine below_set ?_ GE295.out) | exact HB.out)))); have n1_ := Aside0.mk (blk_below (g := gb282) (o := .cells #[.slice none 0 0, .slice none 0 0] 25 (0, 0)) (by (with_reducible repeat (first | refine blk_drewN ?_ _ | refine blk_drew ?_ | refine blk_alloc ?_ _)); refine blk_far ?_ NB282_295.out _; (with_reducible repeat (first | refine blk_drewN ?_ _ | refine blk_drew ?_ | refine blk_alloc ?_ _)); refine blk_far ?_ NB282_295.out _; (with_reducible repeat (first | refine blk_drewN ?_ _ | refine blk_drew ?_ | refine blk_alloc ?_ _)); exact BK282.out) hb); have n2_ := Aside0.mk (blk_below (g := gb295) (o := .cells #[.slice none 0 0, .slice none 0 0] 25 (0, 0)) (by (with_reducible repeat (first | refine blk_drewN ?_ _ | refine blk_drew ?_ | refine blk_alloc ?_ _)); refine blk_put (cs := #[.slice none 0 0, .slice none 0 0]) ?_ 1 _ rfl; (with_reducible repeat (first | refine blk_drewN ?_ _ | refine blk_drew ?_ | refine blk_alloc ?_ _)); refine blk_put (cs := #[.slice none 0 0, .slice none 0 0]) ?_ 0 _ rfl; (with_reducible repeat (first | refine blk_drewN ?_ _ | refine blk_drew ?_ | refine blk_alloc ?_ _)); exact BK295.out) hb); have n3_ := Aside0.mk (below_step (by repeat (first | (with_reducible first | exact HB.out | apply below_alloc | apply pw_below_drewN | apply below_drew1 | refine below_set ?_ GE282.out | refine below_set ?_ GE295.out) | exact HB.out)) hb); clear BK282; clear BK295; clear HB; have HO298 := n0_; have BK282 := n1_; have BK295 := n2_; have HB := n3_; clear n0_ n1_ n2_ n3_; (try clear hb); (try clear hb2); (try clear hk); (try clear hi); (try clear ho0)))
              go_loopg [7] kj1 (fun kq v7 w' => ∃ (x7_2 : Int) (x296000_2 : List Int) (u296000 : Value), v7 = .int .i64 x7_2 ∧ Aside0 (reredosref11_guess.l1 kq a0 x3_1 t296 x7_2 x296000_2 = some (r1, r2)) ∧ Aside0 (kq ≤ kj1) ∧ Aside0 (Kd.R Kd.string 9 w' w.heap.size (fun _ => True) v297 t296) ∧ Aside0 (Kd.R (Kd.int .i64) 3 w' w.heap.size (fun _ => True) u296000 x296000_2) ∧ Aside0 (w'.heap[gb282]? = some (.cells #[(.slice none 0 0), (.slice none 0 0)] 25 (0, 0))) ∧ Aside0 (w'.heap[gb295]? = some (.cells #[u296000, (.slice none 0 0)] 25 (0, 0))) ∧ Aside0 (Below w.heap.size w w'))
              case atStart => exact ⟨(0), (([] : List Int)), (.slice none 0 0), bkF, H', ⟨Nat.le_refl _⟩, ⟨by (with_reducible repeat (first | apply Kd.R_alloc | apply Kd.R_drewN | apply Kd.R_drew)); exact HO298.out⟩, ⟨by first | exact Kd.R_nil _ _ _ _ _ | exact Kd.N_nil _ _ _ _ _ | exact Kd.V_nil _ _ _ _ _ | exact Kd.Q_nil _ _ _ _ _ | exact Kd.S_nil _ _ _ _ _⟩, ⟨by (with_reducible repeat (first | refine blk_drewN ?_ _ | refine blk_drew ?_ | refine blk_alloc ?_ _)); exact BK282.out⟩, ⟨by (with_reducible repeat (first | refine blk_drewN ?_ _ | refine blk_drew ?_ | refine blk_alloc ?_ _)); exact BK295.out⟩, ⟨by repeat (first | (with_reducible first | exact HB.out | apply below_alloc | apply pw_below_drewN | apply below_drew1 | refine below_set ?_ GE282.out | refine below_set ?_ GE295.out) | exact HB.out)⟩⟩
              case round =>
                clear H'
                try clear c1
                try clear p1
                try clear q1
                try clear hx1
                try clear qi1
                try clear p2
                try clear c3
                try clear c4
                try clear c4b0
                try clear c5
                try clear c5b0
                try clear c6
                try clear p6
                try clear q6
                try clear hx6
                try clear c7
                try clear c7b0
                try clear c7b1
                try clear c8
                try clear c8b0
                try clear c8b1
                try clear c13
                try clear c13b0
                try clear c13b1
                try clear c15
                try clear c15b0
                try clear c15b1
                try clear c16
                try clear c16b0
                try clear c16b1
                try clear p17
                try clear q17
                try clear hx17
                try clear qi17
                try clear c18
                try clear c18b0
                try clear c18b1
                try clear c34
                try clear c34b0
                try clear c34b1
                try clear c35
                try clear c35b0
                try clear c35b1
                try clear c38
                try clear hcz12_0
                try clear hcz12_1
                try clear hcz24_0
                try clear hcz24_1
                try clear hcz27_0
                try clear hcz27_1
                try clear hcz33_0
                try clear hcz33_1
                try clear hcz39_0
                try clear hcz39_1
                try clear hfz12_0
                try clear hfz12_1
                try clear hfz24_0
                try clear hfz24_1
                try clear hfz27_0
                try clear hfz27_1
                try clear hfz33_0
                try clear hfz33_1
                try clear hfz39_0
                try clear hfz39_1
                try clear p17
                try clear p2
                try clear p6
                try clear q17
                try clear q6
                obtain ⟨x7_2, x296000_2, u296000, rfl, HA, HK2, HO_6, HO_296000, BK282, BK295, HB⟩ := hrel
                cases gk with
                | zero => exact absurd HA.out (by simp [reredosref11_guess.l1])
                | succ k2 =>
                  have H := HA.out
                  clear HA
                  simp only [reredosref11_guess.l1] at H
                  refine iteE H ?_ ?_ <;> clear H <;> intro c41 H
                  · have c41b0 : decide (x7_2 < (t296.length : Int)) = true := decide_eq_true c41
                    clear c41
                    refine iteE H ?_ ?_ <;> clear H <;> intro c42 H
                    · have c42b0 : decide (0 ≤ x7_2) = true := decide_eq_true c42
                      clear c42
                      refine bnd2 H ?_; clear H; intro t300 t301 A43 H; try dsimp only at H
                      refine iteE H ?_ ?_ <;> clear H <;> intro c44 H
                      · have LMc44 := Aside0.mk c44
                        clear c44
                        obtain ⟨y302, hy302⟩ : ∃ y_ : List Int, y_ = (x296000_2 ++ [t300]) := ⟨_, rfl⟩
                        replace H : (reredosref11_guess.l1 k2 a0 x3_1 t296 (wrap64 (x7_2 + 1)) y302) = some (r1, r2) := by first | (rw [hy302]; with_reducible exact H) | (have H2_ := (Option.bind_some _ _).symm.trans H; rw [hy302]; with_reducible exact H2_) | (have H2_ := (Option.bind_some _ _).symm.trans H; with_reducible exact H2_) | with_reducible exact H | (rw [hy302]; exact H) | exact H
                        have Ny302 := Aside0.mk hy302
                        clear hy302
                        have H' := Aside0.mk H
                        clear H
                        obtain ⟨Ao45, co45, eo45⟩ := Kd.R_slice HO_6.out
                        subst eo45
                        have p299 : 0 ≤ (x7_2 : Int) := of_decide_eq_true (by first | (with_reducible assumption) | assumption)
                        have q299 : x7_2 < (t296.length : Int) := of_decide_eq_true (by first | (with_reducible assumption) | assumption)
                        obtain ⟨ad299, e299, hx299_0⟩ := Kd.at_string (Kd.R_reads' HO_6.out).2.2 x7_2 p299 q299
                        cases e299
                        replace p299 := eq_true p299
                        replace q299 := eq_true q299
                        go_wp2_with (first | ((with_reducible refine gate_callee (f := 131) rfl ?_); refine goesL_ (some 63) rfl rfl Tryz.func131 (by kernel_rfl) rfl #[.string (rdOf ByteArray.empty t296 x7_2)] rfl bkA ?_; (with_reducible refine (Go.Proofs.YtcpaajecppplhaaGreatDoor.K.reredosref01_Int.calls k2 (rdOf ByteArray.empty t296 x7_2) t300 t301 _ A43.out).mono ?_); rintro e w46 ⟨rfl, hb⟩; refine ⟨_, rfl, ?_⟩; have n0_ := Aside0.mk (Kd.R_below (by (with_reducible repeat (first | apply Kd.R_alloc | apply Kd.R_drewN | apply Kd.R_drew)); exact HO_6.out) hb); have n1_ := Aside0.mk (Kd.R_below (by (with_reducible repeat (first | apply Kd.R_alloc | apply Kd.R_drewN | apply Kd.R_drew)); exact HO_296000.out) hb); have n2_ := Aside0.mk (blk_below (g := gb282) (o := .cells #[.slice none 0 0, .slice none 0 0] 25 (0, 0)) (by (with_reducible repeat (first | refine blk_drewN ?_ _ | refine blk_drew ?_ | refine blk_alloc ?_ _)); exact BK282.out) hb); have n3_ := Aside0.mk (blk_below (g := gb295) (o := .cells #[u296000, .slice none 0 0] 25 (0, 0)) (by (with_reducible repeat (first | refine blk_drewN ?_ _ | refine blk_drew ?_ | refine blk_alloc ?_ _)); exact BK295.out) hb); have n4_ := Aside0.mk (below_step (by repeat (first | (with_reducible first | exact HB.out | apply below_alloc | apply pw_below_drewN | apply below_drew1 | refine below_set ?_ GE282.out | refine below_set ?_ GE295.out) | exact HB.out)) hb); clear HO_6; clear HO_296000; clear BK282; clear BK295; clear HB; have HO_6 := n0_; have HO_296000 := n1_; have BK282 := n2_; have BK295 := n3_; have HB := n4_; clear n0_ n1_ n2_ n3_ n4_; (try clear hb); (try clear hb2); (try clear hk); (try clear hi); have hnb47 := NB295_282.out; have hnc47 := NB282_295.out; have hcz48_0 : w46.cell? ⟨gb295, 0, none⟩ = some (u296000) := (blk_cell BK295.out 0).trans rfl; have hcz48_1 : w46.cell? ⟨gb295, 1, none⟩ = some (.slice none 0 0) := (blk_cell BK295.out 1).trans rfl; have hfz48_0 := blk_frozen BK295.out 0; have hfz48_1 := blk_frozen BK295.out 1) | ((with_reducible refine gate_builtin (b := .append) (xs := #[.tmp 67, .tmp 69]) rfl ?_); at_builtin; refine Kd.R_append (Kd.int .i64) (w0 := w) w.heap.size rfl (.tmp 67) (.tmp 69) 22 3 (.int .i64 0) 8 rfl Tryz.underlying22 info3 rfl (by decide) (by omega) u296000 x296000_2 t300 [.int .i64 t300] (fun _ => True) (fun _ => False) rfl rfl ?aP (fun _ hk => hk.elim) ?aF ?aO ?aB ?aS ?aL ?_; (case aP => exact rfl); (case aB => exact (by repeat (first | (with_reducible first | exact HB.out | apply below_alloc | apply pw_below_drewN | apply below_drew1 | refine below_set ?_ GE282.out | refine below_set ?_ GE295.out) | exact HB.out))); (case aF => exact (fun _ _ => trivial)); (case aO => exact (by (with_reducible repeat (first | apply Kd.R_alloc | apply Kd.R_drewN | apply Kd.R_drew)); exact HO_296000.out)); (case aS => exact (below_size (by repeat (first | (with_reducible first | exact HB.out | apply below_alloc | apply pw_below_drewN | apply below_drew1 | refine below_set ?_ GE282.out | refine below_set ?_ GE295.out) | exact HB.out)))); (case aL => have := LMc44.out; omega); intro v303 w49 ho hb hg hat; rw [← Ny302.out] at ho; have n0_ := Aside0.mk (Kd.R_over' (by (with_reducible repeat (first | apply Kd.R_alloc | apply Kd.R_drewN | apply Kd.R_drew)); exact HO_6.out) (Kd.R_typed (by (with_reducible repeat (first | apply Kd.R_alloc | apply Kd.R_drewN | apply Kd.R_drew)); exact HO_296000.out)) (by decide) hg); have n1_ := Aside0.mk (blk_grown (g := gb282) (o := .cells #[.slice none 0 0, .slice none 0 0] 25 (0, 0)) (by (with_reducible repeat (first | refine blk_drewN ?_ _ | refine blk_drew ?_ | refine blk_alloc ?_ _)); exact BK282.out) hg (Kd.R_ne HO_296000.out BK282.out (by decide))); have n2_ := Aside0.mk (blk_grown (g := gb295) (o := .cells #[u296000, .slice none 0 0] 25 (0, 0)) (by (with_reducible repeat (first | refine blk_drewN ?_ _ | refine blk_drew ?_ | refine blk_alloc ?_ _)); exact BK295.out) hg (Kd.R_ne HO_296000.out BK295.out (by decide))); have n3_ := Aside0.mk (hb); have n4_ := Aside0.mk (ho); clear HO_6; clear BK282; clear BK295; clear HB; clear HO_296000; have HO_6 := n0_; have BK282 := n1_; have BK295 := n2_; have HB := n3_; have HO304 := n4_; clear n0_ n1_ n2_ n3_ n4_; clear ho hb hg hat; obtain ⟨Ao50, co50, eo50⟩ := Kd.R_slice HO304.out; subst eo50; have hcz51_0 : w49.cell? ⟨gb295, 0, none⟩ = some (u296000) := (blk_cell BK295.out 0).trans rfl; have hcz51_1 : w49.cell? ⟨gb295, 1, none⟩ = some (.slice none 0 0) := (blk_cell BK295.out 1).trans rfl; have hfz51_0 := blk_frozen BK295.out 0; have hfz51_1 := blk_frozen BK295.out 1))
                        go_roundg k2
                        case measure => have := HJ1.out; have := HK2.out; omega
                        case rel => exact ⟨(wrap64 (x7_2 + 1)), (y302), (.slice Ao50 y302.length co50), bkF, H', ⟨by have := HJ1.out; have := HK2.out; omega⟩, ⟨by (with_reducible repeat (first | apply Kd.R_alloc | apply Kd.R_drewN | apply Kd.R_drew)); exact Kd.R_mono (Kd.R_far (p := ⟨gb295, 0, none⟩) (Kd.R_types HO_6.out BK295.out (by decide)) (fun _ hk => hk.2) (.slice Ao50 y302.length co50)) (fun _ hk => trivial)⟩, ⟨by (with_reducible repeat (first | apply Kd.R_alloc | apply Kd.R_drewN | apply Kd.R_drew)); exact Kd.R_mono (Kd.R_far (p := ⟨gb295, 0, none⟩) (Kd.R_types HO304.out BK295.out (by decide)) (fun _ hk => hk.2) (.slice Ao50 y302.length co50)) (fun _ hk => trivial)⟩, ⟨by (with_reducible repeat (first | refine blk_drewN ?_ _ | refine blk_drew ?_ | refine blk_alloc ?_ _)); refine blk_far ?_ NB282_295.out _; (with_reducible repeat (first | refine blk_drewN ?_ _ | refine blk_drew ?_ | refine blk_alloc ?_ _)); exact BK282.out⟩, ⟨by (with_reducible repeat (first | refine blk_drewN ?_ _ | refine blk_drew ?_ | refine blk_alloc ?_ _)); refine blk_put (cs := #[u296000, .slice none 0 0]) ?_ 0 _ rfl; (with_reducible repeat (first | refine blk_drewN ?_ _ | refine blk_drew ?_ | refine blk_alloc ?_ _)); exact BK295.out⟩, ⟨by repeat (first | (with_reducible first | exact HB.out | apply below_alloc | apply pw_below_drewN | apply below_drew1 | refine below_set ?_ GE282.out | refine below_set ?_ GE295.out) | exact HB.out)⟩⟩
                      · exact absurd H (by simp)
                    · exact absurd H (by simp)
                  · have c41b0 : decide (x7_2 < (t296.length : Int)) = false := decide_eq_false c41
                    clear c41
                    obtain ⟨ji52, hji52⟩ : ∃ j_ : Int, (wrap64 (x3_1 + 1)) = j_ := ⟨_, rfl⟩
                    replace H : (if 0 ≤ (ji52) then (if (ji52) ≤ (a0.size : Int) then (if (a0.extract ((ji52) : Int).toNat a0.size).toList = ([33, 48] : List UInt8) then (some (x296000_2, ([] : List ByteArray))) else ((reredosref11_words.f k2 (a0.extract ((ji52) : Int).toNat a0.size)).bind fun t305 => (some (x296000_2, t305)))) else (none)) else (none)) = some (r1, r2) := by first | (rw [hji52] at H; exact H) | (simp only [hji52] at H ⊢; exact H)
                    have hji52w : (IntKind.i64.wrap (x3_1 + 1)) = ji52 := (i64_w _).trans hji52
                    refine iteE H ?_ ?_ <;> clear H <;> intro c53 H
                    · have c53b0 := eq_true c53
                      have c53b1 : decide (0 ≤ (ji52)) = true := decide_eq_true c53
                      clear c53
                      refine iteE H ?_ ?_ <;> clear H <;> intro c54 H
                      · have c54b0 := eq_true c54
                        have c54b1 : decide ((ji52) ≤ (a0.size : Int)) = true := decide_eq_true c54
                        clear c54
                        refine iteE H ?_ ?_ <;> clear H <;> intro c55 H
                        · have c55b0 : ((a0.extract ((ji52) : Int).toNat a0.size).toList == ([33, 48] : List UInt8)) = true := beq_iff_eq.mpr c55
                          have c55b1 : ((a0.extract ((ji52) : Int).toNat a0.size).toList != ([33, 48] : List UInt8)) = false := bne_eq_false_iff_eq.mpr c55
                          clear c55
                          simp only [Option.some.injEq, Prod.mk.injEq] at H
                          obtain ⟨rfl, rfl⟩ := H
                          obtain ⟨Ao56, co56, eo56⟩ := Kd.R_slice HO_6.out
                          subst eo56
                          have hnb57 := NB295_282.out
                          have hnc57 := NB282_295.out
                          have hcz58_0 : wr.cell? ⟨gb295, 0, none⟩ = some (u296000) := (blk_cell BK295.out 0).trans rfl
                          have hcz58_1 : wr.cell? ⟨gb295, 1, none⟩ = some (.slice none 0 0) := (blk_cell BK295.out 1).trans rfl
                          have hfz58_0 := blk_frozen BK295.out 0
                          have hfz58_1 := blk_frozen BK295.out 1
                          obtain ⟨Ao59, co59, eo59⟩ := Kd.R_slice HO_296000.out
                          subst eo59
                          have hcz60_0 : wr.cell? ⟨gb282, 0, none⟩ = some (.slice none 0 0) := (blk_cell BK282.out 0).trans rfl
                          have hcz60_1 : wr.cell? ⟨gb282, 1, none⟩ = some (.slice none 0 0) := (blk_cell BK282.out 1).trans rfl
                          have hfz60_0 := blk_frozen BK282.out 0
                          have hfz60_1 := blk_frozen BK282.out 1
                          go_wp2
                          refine bodyPost_ret (results_cell_row rfl _ _ gb282 25 #[.slice Ao59 x296000_2.length co59, .slice none 0 0] (0, 0) _ rfl (by (with_reducible repeat (first | refine blk_drewN ?_ _ | refine blk_drew ?_ | refine blk_alloc ?_ _)); refine blk_put (cs := #[.slice Ao59 x296000_2.length co59, .slice none 0 0]) ?_ 1 _ rfl; (with_reducible repeat (first | refine blk_drewN ?_ _ | refine blk_drew ?_ | refine blk_alloc ?_ _)); refine blk_put (cs := #[.slice none 0 0, .slice none 0 0]) ?_ 0 _ rfl; (with_reducible repeat (first | refine blk_drewN ?_ _ | refine blk_drew ?_ | refine blk_alloc ?_ _)); exact BK282.out) Tryz.underlying25 rfl (by kernel_rfl)) rfl ?_
                          exact ⟨_, _, by first | rfl | (simp [errW_none, errW_some] <;> rfl) | (simp only [← hji52]; first | rfl | (simp [errW_none, errW_some] <;> rfl)) | (simp [*, errW_none, errW_some] <;> rfl), by (with_reducible repeat (first | apply Kd.R_alloc | apply Kd.R_drewN | apply Kd.R_drew)); exact Kd.R_mono (Kd.R_far (p := ⟨gb282, 1, none⟩) (Kd.R_far (p := ⟨gb282, 0, none⟩) (Kd.R_types HO_296000.out BK282.out (by decide)) (fun _ hk => hk.2) (.slice Ao59 x296000_2.length co59)) (fun _ hk => hk.2) (.slice none 0 0)) (fun _ hk => trivial), by first | exact Kd.R_nil _ _ _ _ _ | exact Kd.N_nil _ _ _ _ _ | exact Kd.V_nil _ _ _ _ _ | exact Kd.Q_nil _ _ _ _ _ | exact Kd.S_nil _ _ _ _ _, by repeat (first | (with_reducible first | exact HB.out | apply below_alloc | apply pw_below_drewN | apply below_drew1 | refine below_set ?_ GE282.out | refine below_set ?_ GE295.out) | exact HB.out)⟩
                        · have c55b0 : ((a0.extract ((ji52) : Int).toNat a0.size).toList == ([33, 48] : List UInt8)) = false := beq_eq_false_iff_ne.mpr c55
                          have c55b1 : ((a0.extract ((ji52) : Int).toNat a0.size).toList != ([33, 48] : List UInt8)) = true := bne_iff_ne.mpr c55
                          have c61b0 := eq_true (of_decide_eq_true (by first | (with_reducible assumption) | assumption) : 0 ≤ (ji52))
                          have c62b0 := eq_true (of_decide_eq_true (by first | (with_reducible assumption) | assumption) : (ji52) ≤ (a0.size : Int))
                          refine bnd H ?_; clear H; intro t305 A63 H
                          obtain ⟨Ao64, co64, eo64⟩ := Kd.R_slice HO_6.out
                          subst eo64
                          go_wp2_with (first | ((with_reducible refine gate_callee (f := 130) rfl ?_); refine goesL_ (some 81) rfl rfl Tryz.func130 (by kernel_rfl) rfl #[.string (a0.extract ((ji52) : Int).toNat a0.size)] rfl (by (try simp only [List.map_toArray, List.map_cons, List.map_nil]); first | done | (simp only [hji52]; rfl) | rfl | (simp only [List.length_drop, List.length_take]; rfl)) ?_; (with_reducible refine (reredosref11_words.calls k2 (a0.extract ((ji52) : Int).toNat a0.size) t305 _ A63.out).mono ?_); rintro e w65 ⟨v306, rfl, ho0, hb⟩; refine ⟨_, rfl, ?_⟩; have n0_ := Aside0.mk (Kd.R_elder' (by (with_reducible repeat (first | apply Kd.R_alloc | apply Kd.R_drewN | apply Kd.R_drew)); exact HO_6.out) (Kd.R_base ho0) hb); have n1_ := Aside0.mk (Kd.R_below (by (with_reducible repeat (first | apply Kd.R_alloc | apply Kd.R_drewN | apply Kd.R_drew)); exact HO_296000.out) hb); have n2_ := Aside0.mk (Kd.R_lower (Kd.R_new' ho0 (Kd.R_lt (by (with_reducible repeat (first | apply Kd.R_alloc | apply Kd.R_drewN | apply Kd.R_drew)); exact HO_6.out))) (below_size (by repeat (first | (with_reducible first | exact HB.out | apply below_alloc | apply pw_below_drewN | apply below_drew1 | refine below_set ?_ GE282.out | refine below_set ?_ GE295.out) | exact HB.out)))); have n3_ := Aside0.mk (blk_below (g := gb282) (o := .cells #[.slice none 0 0, .slice none 0 0] 25 (0, 0)) (by (with_reducible repeat (first | refine blk_drewN ?_ _ | refine blk_drew ?_ | refine blk_alloc ?_ _)); exact BK282.out) hb); have n4_ := Aside0.mk (blk_below (g := gb295) (o := .cells #[u296000, .slice none 0 0] 25 (0, 0)) (by (with_reducible repeat (first | refine blk_drewN ?_ _ | refine blk_drew ?_ | refine blk_alloc ?_ _)); exact BK295.out) hb); have n5_ := Aside0.mk (below_step (by repeat (first | (with_reducible first | exact HB.out | apply below_alloc | apply pw_below_drewN | apply below_drew1 | refine below_set ?_ GE282.out | refine below_set ?_ GE295.out) | exact HB.out)) hb); clear HO_6; clear HO_296000; clear BK282; clear BK295; clear HB; have HO_6 := n0_; have HO_296000 := n1_; have HO307 := n2_; have BK282 := n3_; have BK295 := n4_; have HB := n5_; clear n0_ n1_ n2_ n3_ n4_ n5_; (try clear hb); (try clear hb2); (try clear hk); (try clear hi); (try clear ho0); obtain ⟨Ao66, co66, eo66⟩ := Kd.R_slice HO307.out; subst eo66; have hnb67 := NB295_282.out; have hnc67 := NB282_295.out; have hcz68_0 : w65.cell? ⟨gb295, 0, none⟩ = some (u296000) := (blk_cell BK295.out 0).trans rfl; have hcz68_1 : w65.cell? ⟨gb295, 1, none⟩ = some (.slice none 0 0) := (blk_cell BK295.out 1).trans rfl; have hfz68_0 := blk_frozen BK295.out 0; have hfz68_1 := blk_frozen BK295.out 1; obtain ⟨Ao69, co69, eo69⟩ := Kd.R_slice HO_296000.out; subst eo69; refine halt ?_))
                          refine ⟨?_⟩
                          simp only [Option.some.injEq, Prod.mk.injEq] at H
                          obtain ⟨rfl, rfl⟩ := H
                          have hcz70_0 : w65.cell? ⟨gb282, 0, none⟩ = some (.slice none 0 0) := (blk_cell BK282.out 0).trans rfl
                          have hcz70_1 : w65.cell? ⟨gb282, 1, none⟩ = some (.slice none 0 0) := (blk_cell BK282.out 1).trans rfl
                          have hfz70_0 := blk_frozen BK282.out 0
                          have hfz70_1 := blk_frozen BK282.out 1
                          go_wp2
                          refine bodyPost_ret (results_cell_row rfl _ _ gb282 25 #[.slice Ao69 x296000_2.length co69, .slice Ao66 t305.length co66] (0, 0) _ rfl (by (with_reducible repeat (first | refine blk_drewN ?_ _ | refine blk_drew ?_ | refine blk_alloc ?_ _)); refine blk_put (cs := #[.slice Ao69 x296000_2.length co69, .slice none 0 0]) ?_ 1 _ rfl; (with_reducible repeat (first | refine blk_drewN ?_ _ | refine blk_drew ?_ | refine blk_alloc ?_ _)); refine blk_put (cs := #[.slice none 0 0, .slice none 0 0]) ?_ 0 _ rfl; (with_reducible repeat (first | refine blk_drewN ?_ _ | refine blk_drew ?_ | refine blk_alloc ?_ _)); refine blk_far ?_ NB282_295.out _; (with_reducible repeat (first | refine blk_drewN ?_ _ | refine blk_drew ?_ | refine blk_alloc ?_ _)); exact BK282.out) Tryz.underlying25 rfl (by kernel_rfl)) rfl ?_
                          exact ⟨_, _, by first | rfl | (simp [errW_none, errW_some] <;> rfl) | (simp only [← hji52]; first | rfl | (simp [errW_none, errW_some] <;> rfl)) | (simp [*, errW_none, errW_some] <;> rfl), by (with_reducible repeat (first | apply Kd.R_alloc | apply Kd.R_drewN | apply Kd.R_drew)); exact Kd.R_mono (Kd.R_far (p := ⟨gb282, 1, none⟩) (Kd.R_far (p := ⟨gb282, 0, none⟩) (Kd.R_far (p := ⟨gb295, 1, none⟩) (Kd.R_types (Kd.R_types HO_296000.out BK295.out (by decide)) BK282.out (by decide)) (fun _ hk => hk.1.2) (.slice Ao66 t305.length co66)) (fun _ hk => hk.2) (.slice Ao69 x296000_2.length co69)) (fun _ hk => hk.2) (.slice Ao66 t305.length co66)) (fun _ hk => trivial), by (with_reducible repeat (first | apply Kd.R_alloc | apply Kd.R_drewN | apply Kd.R_drew)); exact Kd.R_mono (Kd.R_far (p := ⟨gb282, 1, none⟩) (Kd.R_far (p := ⟨gb282, 0, none⟩) (Kd.R_far (p := ⟨gb295, 1, none⟩) (Kd.R_types (Kd.R_types HO307.out BK295.out (by decide)) BK282.out (by decide)) (fun _ hk => hk.1.2) (.slice Ao66 t305.length co66)) (fun _ hk => hk.2) (.slice Ao69 x296000_2.length co69)) (fun _ hk => hk.2) (.slice Ao66 t305.length co66)) (fun _ hk => trivial), by repeat (first | (with_reducible first | exact HB.out | apply below_alloc | apply pw_below_drewN | apply below_drew1 | refine below_set ?_ GE282.out | refine below_set ?_ GE295.out) | exact HB.out)⟩
                      · exact absurd H (by simp)
                    · exact absurd H (by simp)
            · exact absurd H (by simp)
          · exact absurd H (by simp)
end Go.Proofs.YtcpaajecppplhaaGreatDoor.TV
end
