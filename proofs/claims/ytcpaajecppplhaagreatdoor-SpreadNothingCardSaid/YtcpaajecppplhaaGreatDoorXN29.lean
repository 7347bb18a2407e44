/- What the law leans on, part 30: declarations of several texts of ours, in their order. -/
import Derived.Test.YtcpaajecppplhaaGreatDoorXN27
import Derived.Test.YtcpaajecppplhaaGreatDoorXN28
section
namespace Go.Proofs.YtcpaajecppplhaaGreatDoor.L
open Go.RowKit Go.Proofs.YtcpaajecppplhaaGreatDoorW.PrintWords Go.Proofs.YtcpaajecppplhaaGreatDoorW.PrintLast Go.Proofs.YtcpaajecppplhaaGreatDoorW.PrintMore Go.Proofs.YtcpaajecppplhaaGreatDoor.B Go.Proofs.YtcpaajecppplhaaGreatDoor.K
attribute [local go_sem] max2_int min2_int max_two min_two max_three min_three max_four min_four
set_option linter.unusedVariables false
set_option linter.unusedSimpArgs false
/-! ### num_told: function 193 -/
def num_told.j0 : Nat → List Int → Bool → Option (ByteArray × Int)
  | 0, _, _ => none
  | k + 1, x132000, x132001 => (Hd.wtext.f x132000 x132001).bind fun t132 => ((Go.Proofs.YtcpaajecppplhaaGreatDoor.K.num_May.f t132).bind fun t133 => (if t133 = true then (some (t132, 0)) else (some ((⟨#[]⟩ : ByteArray), 8))))
def num_told.f (k : Nat) (l0_0 : List Int) (a0_1 : Bool) : Option (ByteArray × Int) := if a0_1 = true then (num_told.j0 k l0_0 (decide (0 < l0_0.length))) else (num_told.j0 k l0_0 false)
set_option maxHeartbeats 8000000 in
set_option maxRecDepth 100000 in
theorem num_told.calls (k : Nat) (A0_0 : Option Addr) (c0_0 : Nat) (l0_0 : List Int) (a0_1 : Bool) (r1 : ByteArray) (r2 : Int) (w : World) (hr0_0 : Kd.C (Kd.int .u64) w A0_0 l0_0.length l0_0) (hc0_0 : l0_0.length ≤ c0_0) (hG : Hd.GL w) (h : num_told.f k l0_0 a0_1 = some (r1, r2)) :
    Calls Tryz.prog 193 #[.agg #[.slice A0_0 l0_0.length c0_0, .bool a0_1]] w fun e w' => e = .returned (.tuple #[.string r1, .int .i64 r2]) ∧ Below w.heap.size w w' := by
  have hu161 := Tryz.underlying161
  have HR0_0 := Aside0.mk hr0_0
  have HC0_0 := Aside0.mk hc0_0
  clear hr0_0 hc0_0
  have HGL := Aside0.mk hG
  clear hG
  have HB := Aside0.mk (Below.refl w.heap.size w)
  have H : (if a0_1 = true then (num_told.j0 k l0_0 (decide (0 < l0_0.length))) else (num_told.j0 k l0_0 false)) = some (r1, r2) := h
  clear h
  have HC2 := Aside0.mk H
  clear H
  go_enter Tryz.func193, Tryz.ntmps193
  go_upto_region 1 with (first | ((with_reducible refine gate_dst (N := 1) rfl ?_); (try (refine gate_guard (by rfl) ?_; dsimp only)); refine box_event ?hg (N := 1) ?hd (cs := #[.slice A0_0 l0_0.length c0_0, .bool a0_1]) (t := 161) ?hr ?_; (case hd => rfl); (case hg => rfl); (case hr => first | (go_simp; done) | (go_simp; rfl)); intro gb131 hg w3 hbox hb; have n1_ := Aside0.mk (hbox); have n2_ := Aside0.mk ((by rw [hg]; exact (below_size bkB) : w.heap.size ≤ gb131)); have n3_ := Aside0.mk ((by rw [hg]; exact (below_size bkB) : w.heap.size ≤ gb131)); have BK131 := n1_; have GW131 := n2_; have GE131 := n3_; clear n1_ n2_ n3_; replace HB := kS HB hb; clear hb hbox hg))
  (try simp only [Act.put, List.setIfInBounds_toArray, List.set_cons_zero, List.set_cons_succ])
  go_cut [] (fun wc => ∃ (kq : Nat) (x132001_1 : Bool), Aside0 (num_told.j0 kq l0_0 x132001_1 = some (r1, r2)) ∧ Aside0 (kq ≤ k) ∧ Aside0 (wc.heap[gb131]? = some (.cells #[(.slice A0_0 l0_0.length c0_0), .bool x132001_1] 161 (0, 0))) ∧ Aside0 (Below w.heap.size w wc))
  case first =>
    have H := HC2.out
    clear HC2
    refine iteB H ?_ ?_ <;> clear H <;> rintro rfl H
    · have H' := Aside0.mk H
      clear H
      have hcz5_0 : w3.cell? ⟨gb131, 0, none⟩ = some (.slice A0_0 l0_0.length c0_0) := (blk_cell BK131.out 0).trans rfl
      have hcz5_1 : w3.cell? ⟨gb131, 1, none⟩ = some (.bool true) := (blk_cell BK131.out 1).trans rfl
      have hfz5_0 := blk_frozen BK131.out 0
      have hfz5_1 := blk_frozen BK131.out 1
      go_wp2
      go_meet
      case rel => exact ⟨_, (decide (0 < l0_0.length)), H', ⟨by first | omega | exact Nat.le_refl _⟩, ⟨by (with_reducible repeat (first | refine blk_drewN ?_ _ | refine blk_drew ?_ | refine blk_alloc ?_ _)); refine blk_put (cs := #[.slice A0_0 l0_0.length c0_0, .bool true]) ?_ 1 _ rfl; (with_reducible repeat (first | refine blk_drewN ?_ _ | refine blk_drew ?_ | refine blk_alloc ?_ _)); exact BK131.out⟩, ⟨by repeat (first | (with_reducible first | exact HB.out | apply below_alloc | apply pw_below_drewN | apply below_drew1 | refine below_set ?_ GE131.out) | exact HB.out)⟩⟩
    · have H' := Aside0.mk H
      clear H
      have hcz6_0 : w3.cell? ⟨gb131, 0, none⟩ = some (.slice A0_0 l0_0.length c0_0) := (blk_cell BK131.out 0).trans rfl
      have hcz6_1 : w3.cell? ⟨gb131, 1, none⟩ = some (.bool false) := (blk_cell BK131.out 1).trans rfl
      have hfz6_0 := blk_frozen BK131.out 0
      have hfz6_1 := blk_frozen BK131.out 1
      go_wp2
      go_meet
      case rel => exact ⟨_, (false), H', ⟨by first | omega | exact Nat.le_refl _⟩, ⟨by (with_reducible repeat (first | refine blk_drewN ?_ _ | refine blk_drew ?_ | refine blk_alloc ?_ _)); refine blk_put (cs := #[.slice A0_0 l0_0.length c0_0, .bool false]) ?_ 1 _ rfl; (with_reducible repeat (first | refine blk_drewN ?_ _ | refine blk_drew ?_ | refine blk_alloc ?_ _)); exact BK131.out⟩, ⟨by repeat (first | (with_reducible first | exact HB.out | apply below_alloc | apply pw_below_drewN | apply below_drew1 | refine below_set ?_ GE131.out) | exact HB.out)⟩⟩
  case rest =>
    clear HC2
    try clear c1
    try clear p2
    try clear c4
    try clear hcz5_0
    try clear hcz5_1
    try clear hcz6_0
    try clear hcz6_1
    try clear hfz5_0
    try clear hfz5_1
    try clear hfz6_0
    try clear hfz6_1
    obtain ⟨kq, x132001_1, HA, HJ1, BK131, HB⟩ := hcut
    cases kq with
    | zero => exact absurd HA.out (by simp [num_told.j0])
    | succ kj1 =>
      have H := HA.out
      clear HA
      simp only [num_told.j0] at H
      refine bnd H ?_; clear H; intro t132 A7 H
      have hcz10_0 : wc.cell? ⟨gb131, 0, none⟩ = some (.slice A0_0 l0_0.length c0_0) := (blk_cell BK131.out 0).trans rfl
      have hcz10_1 : wc.cell? ⟨gb131, 1, none⟩ = some (.bool x132001_1) := (blk_cell BK131.out 1).trans rfl
      have hfz10_0 := blk_frozen BK131.out 0
      have hfz10_1 := blk_frozen BK131.out 1
      go_wp2_with (first | ((with_reducible refine gate_callee (f := 192) rfl ?_); refine goesC (args := #[.agg #[.slice A0_0 l0_0.length c0_0, .bool x132001_1]]) Tryz.func192 (some 15) (Hd.wtext.calls _ _ l0_0 x132001_1 t132 _ ?side1 ?side2 ?side3 A7.out) ?_; (case side1 => repeat (first | exact (Kd.C_below HR0_0.out HB.out) | (with_reducible refine Kd.C_alloc ?_ _) | (with_reducible refine Kd.C_drewN ?_ _) | (with_reducible refine Kd.C_drew ?_))); (case side2 => exact HC0_0.out); (case side3 => refine Hd.GL.below HGL.out ?_; repeat (first | (with_reducible first | exact HB.out | apply below_alloc | apply pw_below_drewN | apply below_drew1 | refine below_set ?_ GE131.out) | exact HB.out)); rintro e w11 ⟨rfl, hb⟩; refine ⟨_, rfl, ?_⟩; replace BK131 := kB BK131 hb; replace HB := kS HB hb; (try clear hb); (try clear hb2); (try clear hk); (try clear hi); refine halt ?_))
      refine ⟨?_⟩
      refine bnd H ?_; clear H; intro t133 A8 H
      go_wp2_with (first | ((with_reducible refine gate_callee (f := 70) rfl ?_); refine goesC Tryz.func70 (some 17) (Go.Proofs.YtcpaajecppplhaaGreatDoor.K.num_May.calls _ _ _ A8.out) ?_; rintro e w12 ⟨rfl, hb⟩; refine ⟨_, rfl, ?_⟩; replace BK131 := kB BK131 hb; replace HB := kS HB hb; (try clear hb); (try clear hb2); (try clear hk); (try clear hi); refine halt ?_))
      refine ⟨?_⟩
      refine iteB H ?_ ?_ <;> clear H <;> rintro rfl H
      · simp only [Option.some.injEq, Prod.mk.injEq] at H
        obtain ⟨rfl, rfl⟩ := H
        go_wp2
        go_ret2
        exact ⟨bkE, by repeat (first | (with_reducible first | exact HB.out | apply below_alloc | apply pw_below_drewN | apply below_drew1 | refine below_set ?_ GE131.out) | exact HB.out)⟩
      · simp only [Option.some.injEq, Prod.mk.injEq] at H
        obtain ⟨rfl, rfl⟩ := H
        go_wp2
        go_ret2
        exact ⟨bkE, by repeat (first | (with_reducible first | exact HB.out | apply below_alloc | apply pw_below_drewN | apply below_drew1 | refine below_set ?_ GE131.out) | exact HB.out)⟩
/-! ### num_of_plus: function 302 -/
def num_of_plus.j0 : Nat → ByteArray → ByteArray → Bool → Option (ByteArray × Int)
  | 0, _, _, _ => none
  | k + 1, x0, x1, x15 => if x15 = true then (some ((⟨#[]⟩ : ByteArray), 1)) else ((Go.Proofs.YtcpaajecppplhaaGreatDoor.K.num_read.f k x0).bind fun bt136 => ((Go.Proofs.YtcpaajecppplhaaGreatDoor.K.num_read.f k x1).bind fun bt140 => ((L.num_plus.f k bt136.1 bt136.2 bt140.1 bt140.2).bind fun bt144 => ((num_told.f k bt144.1 bt144.2).bind fun bt148 => (some (bt148.1, bt148.2))))))
def num_of_plus.f (k : Nat) (a0 : ByteArray) (a1 : ByteArray) : Option (ByteArray × Int) := (Go.Proofs.YtcpaajecppplhaaGreatDoor.K.num_May.f a0).bind fun t134 => (if t134 = true then ((Go.Proofs.YtcpaajecppplhaaGreatDoor.K.num_May.f a1).bind fun t135 => (num_of_plus.j0 k a0 a1 (!t135))) else (num_of_plus.j0 k a0 a1 true))
set_option maxHeartbeats 8000000 in
set_option maxRecDepth 100000 in
theorem num_of_plus.calls (k : Nat) (a0 : ByteArray) (a1 : ByteArray) (r1 : ByteArray) (r2 : Int) (w : World) (hG : Hd.GL w) (h : num_of_plus.f k a0 a1 = some (r1, r2)) :
    Calls Tryz.prog 157 #[.string a0, .string a1, .func (.func 158) #[] #[]] w fun e w' => e = .returned (.tuple #[.string r1, .int .i64 r2]) ∧ Below w.heap.size w w' := by
  have HGL := Aside0.mk hG
  clear hG
  have HB := Aside0.mk (Below.refl w.heap.size w)
  have H : ((Go.Proofs.YtcpaajecppplhaaGreatDoor.K.num_May.f a0).bind fun t134 => (if t134 = true then ((Go.Proofs.YtcpaajecppplhaaGreatDoor.K.num_May.f a1).bind fun t135 => (num_of_plus.j0 k a0 a1 (!t135))) else (num_of_plus.j0 k a0 a1 true))) = some (r1, r2) := h
  clear h
  have HC3 := Aside0.mk H
  clear H
  go_enter Tryz.func157, Tryz.ntmps157
  go_upto_region 1 with (fail)
  go_cut [15] (fun v15 wc => ∃ (kq : Nat) (x15_2 : Bool), v15 = .bool x15_2 ∧ Aside0 (num_of_plus.j0 kq a0 a1 x15_2 = some (r1, r2)) ∧ Aside0 (kq ≤ k) ∧ Aside0 (Below w.heap.size w wc))
  case first =>
    have H := HC3.out
    clear HC3
    refine bnd H ?_; clear H; intro t134 A4 H
    go_wp2_with (first | ((with_reducible refine gate_callee (f := 70) rfl ?_); refine goesB w Tryz.func70 (some 9) (Go.Proofs.YtcpaajecppplhaaGreatDoor.K.num_May.calls _ _ _ A4.out) bkB ?_; clear HB; intro w7 HB; refine halt ?_))
    refine ⟨?_⟩
    refine iteB H ?_ ?_ <;> clear H <;> rintro rfl H
    · refine bnd H ?_; clear H; intro t135 A6 H
      go_wp2_with (first | (go_at_call 70; (with_reducible refine (Go.Proofs.YtcpaajecppplhaaGreatDoor.K.num_May.calls a1 t135 _ A6.out).mono ?_); rintro e w8 ⟨rfl, hb⟩; replace HB := kS HB hb; (try clear hb); (try clear hb2); (try clear hk); (try clear hi); refine halt ?_))
      refine ⟨?_⟩
      have H' := Aside0.mk H
      clear H
      go_wp2
      go_meet
      case rel => exact ⟨_, (!t135), bkF, H', ⟨by first | omega | exact Nat.le_refl _⟩, ⟨bkB⟩⟩
    · have H' := Aside0.mk H
      clear H
      go_wp2
      go_meet
      case rel => exact ⟨_, (true), bkF, H', ⟨by first | omega | exact Nat.le_refl _⟩, ⟨bkB⟩⟩
  case rest =>
    clear HC3
    try clear c1
    try clear p2
    try clear c5
    try clear c7
    obtain ⟨kq, x15_2, rfl, HA, HJ2, HB⟩ := hcut
    cases kq with
    | zero => exact absurd HA.out (by simp [num_of_plus.j0])
    | succ kj2 =>
      have H := HA.out
      clear HA
      simp only [num_of_plus.j0] at H
      refine iteB H ?_ ?_ <;> clear H <;> rintro rfl H
      · simp only [Option.some.injEq, Prod.mk.injEq] at H
        obtain ⟨rfl, rfl⟩ := H
        go_wp2
        go_ret2
        exact ⟨bkE, bkB⟩
      · refine bnd2 H ?_; clear H; intro t136 t139 A11 H; try dsimp only at H
        go_wp2_with (first | ((with_reducible refine gate_callee (f := 166) rfl ?_); refine goesC (args := #[.string a0]) Tryz.func166 (some 18) (Go.Proofs.YtcpaajecppplhaaGreatDoor.K.num_read.calls kj2 a0 t136 t139 _ A11.out) ?_; rintro e w15 ⟨v137, rfl, ho0, hb⟩; refine ⟨_, rfl, ?_⟩; have n0_ := Aside0.mk (Kd.V_lower (Kd.V_mono (ok' := fun k_ => True) ho0 (fun k_ hk_ => trivial)) (below_size bkB)); have HO138 := n0_; clear n0_; replace HB := kS HB hb; (try clear hb); (try clear hb2); (try clear hk); (try clear hi); (try clear ho0); refine halt ?_))
        refine ⟨?_⟩
        refine bnd2 H ?_; clear H; intro t140 t143 A12 H; try dsimp only at H
        go_wp2_with (first | ((with_reducible refine gate_callee (f := 166) rfl ?_); refine goesC (args := #[.string a1]) Tryz.func166 (some 20) (Go.Proofs.YtcpaajecppplhaaGreatDoor.K.num_read.calls kj2 a1 t140 t143 _ A12.out) ?_; rintro e w16 ⟨v141, rfl, ho0, hb⟩; refine ⟨_, rfl, ?_⟩; have n1_ := Aside0.mk (Kd.V_lower (Kd.V_mono (ok' := fun k_ => True) ho0 (fun k_ hk_ => trivial)) (below_size bkB)); have HO142 := n1_; clear n1_; replace HO138 := kV HO138 hb; replace HB := kS HB hb; (try clear hb); (try clear hb2); (try clear hk); (try clear hi); (try clear ho0); obtain ⟨Ao17, co17, eo17⟩ := Kd.V_slice HO138.out; subst eo17; obtain ⟨Ao18, co18, eo18⟩ := Kd.V_slice HO142.out; subst eo18; refine halt ?_))
        refine ⟨?_⟩
        refine bnd2 H ?_; clear H; intro t144 t147 A13 H; try dsimp only at H
        go_wp2_with (first | (go_at_call 158; (with_reducible refine (L.num_plus.calls kj2 _ _ t136 t139 _ _ t140 t143 t144 t147 _ ?side1 ?side2 ?side3 ?side4 A13.out).mono ?_); (case side1 => repeat (first | exact (Kd.V_reads' HO138.out).2.2 | (with_reducible refine Kd.C_alloc ?_ _) | (with_reducible refine Kd.C_drewN ?_ _) | (with_reducible refine Kd.C_drew ?_))); (case side2 => exact (Kd.V_reads' HO138.out).2.1); (case side3 => repeat (first | exact (Kd.V_reads' HO142.out).2.2 | (with_reducible refine Kd.C_alloc ?_ _) | (with_reducible refine Kd.C_drewN ?_ _) | (with_reducible refine Kd.C_drew ?_))); (case side4 => exact (Kd.V_reads' HO142.out).2.1); rintro e w19 ⟨v145, rfl, ho0, hb⟩; have n2_ := Aside0.mk (Kd.V_lower (Kd.V_mono (ok' := fun k_ => True) ho0 (fun k_ hk_ => trivial)) (below_size bkB)); have HO146 := n2_; clear n2_; replace HO138 := kV HO138 hb; replace HO142 := kV HO142 hb; replace HB := kS HB hb; (try clear hb); (try clear hb2); (try clear hk); (try clear hi); (try clear ho0); obtain ⟨Ao20, co20, eo20⟩ := Kd.V_slice HO146.out; subst eo20; refine halt ?_))
        refine ⟨?_⟩
        refine bnd2 H ?_; clear H; intro t148 t149 A14 H; try dsimp only at H
        go_wp2_with (first | ((with_reducible refine gate_callee (f := 193) rfl ?_); refine goesC (args := #[.agg #[.slice Ao20 t144.length co20, .bool t147]]) Tryz.func193 (some 22) (num_told.calls kj2 _ _ t144 t147 t148 t149 _ ?side1 ?side2 ?side3 A14.out) ?_; (case side1 => repeat (first | exact (Kd.V_reads' HO146.out).2.2 | (with_reducible refine Kd.C_alloc ?_ _) | (with_reducible refine Kd.C_drewN ?_ _) | (with_reducible refine Kd.C_drew ?_))); (case side2 => exact (Kd.V_reads' HO146.out).2.1); (case side3 => exact Hd.GL.below HGL.out bkB); rintro e w21 ⟨rfl, hb⟩; refine ⟨_, rfl, ?_⟩; replace HO138 := kV HO138 hb; replace HO142 := kV HO142 hb; replace HO146 := kV HO146 hb; replace HB := kS HB hb; (try clear hb); (try clear hb2); (try clear hk); (try clear hi); refine halt ?_))
        refine ⟨?_⟩
        simp only [Option.some.injEq, Prod.mk.injEq] at H
        obtain ⟨rfl, rfl⟩ := H
        go_wp2
        go_ret2
        exact ⟨bkE, bkB⟩
/-! ### num_of_Sub1: function 304 -/
def num_of_Sub1.j0 : Nat → ByteArray → ByteArray → Bool → Option (ByteArray × Int)
  | 0, _, _, _ => none
  | k + 1, x0, x1, x15 => if x15 = true then (some ((⟨#[]⟩ : ByteArray), 1)) else ((Go.Proofs.YtcpaajecppplhaaGreatDoor.K.num_read.f k x0).bind fun bt152 => ((Go.Proofs.YtcpaajecppplhaaGreatDoor.K.num_read.f k x1).bind fun bt156 => ((L.num_Sub_1.f k bt152.1 bt152.2 bt156.1 bt156.2).bind fun bt160 => ((num_told.f k bt160.1 bt160.2).bind fun bt164 => (some (bt164.1, bt164.2))))))
def num_of_Sub1.f (k : Nat) (a0 : ByteArray) (a1 : ByteArray) : Option (ByteArray × Int) := (Go.Proofs.YtcpaajecppplhaaGreatDoor.K.num_May.f a0).bind fun t150 => (if t150 = true then ((Go.Proofs.YtcpaajecppplhaaGreatDoor.K.num_May.f a1).bind fun t151 => (num_of_Sub1.j0 k a0 a1 (!t151))) else (num_of_Sub1.j0 k a0 a1 true))
set_option maxHeartbeats 8000000 in
set_option maxRecDepth 100000 in
theorem num_of_Sub1.calls (k : Nat) (a0 : ByteArray) (a1 : ByteArray) (r1 : ByteArray) (r2 : Int) (w : World) (hG : Hd.GL w) (h : num_of_Sub1.f k a0 a1 = some (r1, r2)) :
    Calls Tryz.prog 157 #[.string a0, .string a1, .func (.func 159) #[] #[]] w fun e w' => e = .returned (.tuple #[.string r1, .int .i64 r2]) ∧ Below w.heap.size w w' := by
  have HGL := Aside0.mk hG
  clear hG
  have HB := Aside0.mk (Below.refl w.heap.size w)
  have H : ((Go.Proofs.YtcpaajecppplhaaGreatDoor.K.num_May.f a0).bind fun t150 => (if t150 = true then ((Go.Proofs.YtcpaajecppplhaaGreatDoor.K.num_May.f a1).bind fun t151 => (num_of_Sub1.j0 k a0 a1 (!t151))) else (num_of_Sub1.j0 k a0 a1 true))) = some (r1, r2) := h
  clear h
  have HC3 := Aside0.mk H
  clear H
  go_enter Tryz.func157, Tryz.ntmps157
  go_upto_region 1 with (fail)
  go_cut [15] (fun v15 wc => ∃ (kq : Nat) (x15_2 : Bool), v15 = .bool x15_2 ∧ Aside0 (num_of_Sub1.j0 kq a0 a1 x15_2 = some (r1, r2)) ∧ Aside0 (kq ≤ k) ∧ Aside0 (Below w.heap.size w wc))
  case first =>
    have H := HC3.out
    clear HC3
    refine bnd H ?_; clear H; intro t150 A4 H
    go_wp2_with (first | ((with_reducible refine gate_callee (f := 70) rfl ?_); refine goesB w Tryz.func70 (some 9) (Go.Proofs.YtcpaajecppplhaaGreatDoor.K.num_May.calls _ _ _ A4.out) bkB ?_; clear HB; intro w7 HB; refine halt ?_))
    refine ⟨?_⟩
    refine iteB H ?_ ?_ <;> clear H <;> rintro rfl H
    · refine bnd H ?_; clear H; intro t151 A6 H
      go_wp2_with (first | (go_at_call 70; (with_reducible refine (Go.Proofs.YtcpaajecppplhaaGreatDoor.K.num_May.calls a1 t151 _ A6.out).mono ?_); rintro e w8 ⟨rfl, hb⟩; replace HB := kS HB hb; (try clear hb); (try clear hb2); (try clear hk); (try clear hi); refine halt ?_))
      refine ⟨?_⟩
      have H' := Aside0.mk H
      clear H
      go_wp2
      go_meet
      case rel => exact ⟨_, (!t151), bkF, H', ⟨by first | omega | exact Nat.le_refl _⟩, ⟨bkB⟩⟩
    · have H' := Aside0.mk H
      clear H
      go_wp2
      go_meet
      case rel => exact ⟨_, (true), bkF, H', ⟨by first | omega | exact Nat.le_refl _⟩, ⟨bkB⟩⟩
  case rest =>
    clear HC3
    try clear c1
    try clear p2
    try clear c5
    try clear c7
    obtain ⟨kq, x15_2, rfl, HA, HJ2, HB⟩ := hcut
    cases kq with
    | zero => exact absurd HA.out (by simp [num_of_Sub1.j0])
    | succ kj2 =>
      have H := HA.out
      clear HA
      simp only [num_of_Sub1.j0] at H
      refine iteB H ?_ ?_ <;> clear H <;> rintro rfl H
      · simp only [Option.some.injEq, Prod.mk.injEq] at H
        obtain ⟨rfl, rfl⟩ := H
        go_wp2
        go_ret2
        exact ⟨bkE, bkB⟩
      · refine bnd2 H ?_; clear H; intro t152 t155 A11 H; try dsimp only at H
        go_wp2_with (first | ((with_reducible refine gate_callee (f := 166) rfl ?_); refine goesC (args := #[.string a0]) Tryz.func166 (some 18) (Go.Proofs.YtcpaajecppplhaaGreatDoor.K.num_read.calls kj2 a0 t152 t155 _ A11.out) ?_; rintro e w15 ⟨v153, rfl, ho0, hb⟩; refine ⟨_, rfl, ?_⟩; have n0_ := Aside0.mk (Kd.V_lower (Kd.V_mono (ok' := fun k_ => True) ho0 (fun k_ hk_ => trivial)) (below_size bkB)); have HO154 := n0_; clear n0_; replace HB := kS HB hb; (try clear hb); (try clear hb2); (try clear hk); (try clear hi); (try clear ho0); refine halt ?_))
        refine ⟨?_⟩
        refine bnd2 H ?_; clear H; intro t156 t159 A12 H; try dsimp only at H
        go_wp2_with (first | ((with_reducible refine gate_callee (f := 166) rfl ?_); refine goesC (args := #[.string a1]) Tryz.func166 (some 20) (Go.Proofs.YtcpaajecppplhaaGreatDoor.K.num_read.calls kj2 a1 t156 t159 _ A12.out) ?_; rintro e w16 ⟨v157, rfl, ho0, hb⟩; refine ⟨_, rfl, ?_⟩; have n1_ := Aside0.mk (Kd.V_lower (Kd.V_mono (ok' := fun k_ => True) ho0 (fun k_ hk_ => trivial)) (below_size bkB)); have HO158 := n1_; clear n1_; replace HO154 := kV HO154 hb; replace HB := kS HB hb; (try clear hb); (try clear hb2); (try clear hk); (try clear hi); (try clear ho0); obtain ⟨Ao17, co17, eo17⟩ := Kd.V_slice HO154.out; subst eo17; obtain ⟨Ao18, co18, eo18⟩ := Kd.V_slice HO158.out; subst eo18; refine halt ?_))
        refine ⟨?_⟩
        refine bnd2 H ?_; clear H; intro t160 t163 A13 H; try dsimp only at H
        go_wp2_with (first | (go_at_call 159; (with_reducible refine (L.num_Sub_1.calls kj2 _ _ t152 t155 (fun k_ => True) _ _ t156 t159 t160 t163 _ ?side1 ?side2 ?side3 A13.out).mono ?_); (case side1 => repeat (first | exact (Kd.V_reads' HO154.out).2.2 | (with_reducible refine Kd.C_alloc ?_ _) | (with_reducible refine Kd.C_drewN ?_ _) | (with_reducible refine Kd.C_drew ?_))); (case side2 => exact (Kd.V_reads' HO154.out).2.1); (case side3 => exact HO158.out); rintro e w19 ⟨v161, rfl, ho0, hb⟩; have n2_ := Aside0.mk (Kd.V_lower (Kd.V_mono (ok' := fun k_ => True) ho0 (fun k_ hk_ => trivial)) (below_size bkB)); have HO162 := n2_; clear n2_; replace HO154 := kV HO154 hb; replace HO158 := kV HO158 hb; replace HB := kS HB hb; (try clear hb); (try clear hb2); (try clear hk); (try clear hi); (try clear ho0); obtain ⟨Ao20, co20, eo20⟩ := Kd.V_slice HO162.out; subst eo20; refine halt ?_))
        refine ⟨?_⟩
        refine bnd2 H ?_; clear H; intro t164 t165 A14 H; try dsimp only at H
        go_wp2_with (first | ((with_reducible refine gate_callee (f := 193) rfl ?_); refine goesC (args := #[.agg #[.slice Ao20 t160.length co20, .bool t163]]) Tryz.func193 (some 22) (num_told.calls kj2 _ _ t160 t163 t164 t165 _ ?side1 ?side2 ?side3 A14.out) ?_; (case side1 => repeat (first | exact (Kd.V_reads' HO162.out).2.2 | (with_reducible refine Kd.C_alloc ?_ _) | (with_reducible refine Kd.C_drewN ?_ _) | (with_reducible refine Kd.C_drew ?_))); (case side2 => exact (Kd.V_reads' HO162.out).2.1); (case side3 => exact Hd.GL.below HGL.out bkB); rintro e w21 ⟨rfl, hb⟩; refine ⟨_, rfl, ?_⟩; replace HO154 := kV HO154 hb; replace HO158 := kV HO158 hb; replace HO162 := kV HO162 hb; replace HB := kS HB hb; (try clear hb); (try clear hb2); (try clear hk); (try clear hi); refine halt ?_))
        refine ⟨?_⟩
        simp only [Option.some.injEq, Prod.mk.injEq] at H
        obtain ⟨rfl, rfl⟩ := H
        go_wp2
        go_ret2
        exact ⟨bkE, bkB⟩
/-! ### num_of_Mul1: function 306 -/
def num_of_Mul1.j0 : Nat → ByteArray → ByteArray → Bool → Option (ByteArray × Int)
  | 0, _, _, _ => none
  | k + 1, x0, x1, x15 => if x15 = true then (some ((⟨#[]⟩ : ByteArray), 1)) else ((Go.Proofs.YtcpaajecppplhaaGreatDoor.K.num_read.f k x0).bind fun bt168 => ((Go.Proofs.YtcpaajecppplhaaGreatDoor.K.num_read.f k x1).bind fun bt172 => ((L.num_Mul_1.f k bt168.1 bt168.2 bt172.1 bt172.2).bind fun bt176 => ((num_told.f k bt176.1 bt176.2).bind fun bt180 => (some (bt180.1, bt180.2))))))
def num_of_Mul1.f (k : Nat) (a0 : ByteArray) (a1 : ByteArray) : Option (ByteArray × Int) := (Go.Proofs.YtcpaajecppplhaaGreatDoor.K.num_May.f a0).bind fun t166 => (if t166 = true then ((Go.Proofs.YtcpaajecppplhaaGreatDoor.K.num_May.f a1).bind fun t167 => (num_of_Mul1.j0 k a0 a1 (!t167))) else (num_of_Mul1.j0 k a0 a1 true))
set_option maxHeartbeats 8000000 in
set_option maxRecDepth 100000 in
theorem num_of_Mul1.calls (k : Nat) (a0 : ByteArray) (a1 : ByteArray) (r1 : ByteArray) (r2 : Int) (w : World) (hG : Hd.GL w) (h : num_of_Mul1.f k a0 a1 = some (r1, r2)) :
    Calls Tryz.prog 157 #[.string a0, .string a1, .func (.func 161) #[] #[]] w fun e w' => e = .returned (.tuple #[.string r1, .int .i64 r2]) ∧ Below w.heap.size w w' := by
  have HGL := Aside0.mk hG
  clear hG
  have HB := Aside0.mk (Below.refl w.heap.size w)
  have H : ((Go.Proofs.YtcpaajecppplhaaGreatDoor.K.num_May.f a0).bind fun t166 => (if t166 = true then ((Go.Proofs.YtcpaajecppplhaaGreatDoor.K.num_May.f a1).bind fun t167 => (num_of_Mul1.j0 k a0 a1 (!t167))) else (num_of_Mul1.j0 k a0 a1 true))) = some (r1, r2) := h
  clear h
  have HC3 := Aside0.mk H
  clear H
  go_enter Tryz.func157, Tryz.ntmps157
  go_upto_region 1 with (fail)
  go_cut [15] (fun v15 wc => ∃ (kq : Nat) (x15_2 : Bool), v15 = .bool x15_2 ∧ Aside0 (num_of_Mul1.j0 kq a0 a1 x15_2 = some (r1, r2)) ∧ Aside0 (kq ≤ k) ∧ Aside0 (Below w.heap.size w wc))
  case first =>
    have H := HC3.out
    clear HC3
    refine bnd H ?_; clear H; intro t166 A4 H
    go_wp2_with (first | ((with_reducible refine gate_callee (f := 70) rfl ?_); refine goesB w Tryz.func70 (some 9) (Go.Proofs.YtcpaajecppplhaaGreatDoor.K.num_May.calls _ _ _ A4.out) bkB ?_; clear HB; intro w7 HB; refine halt ?_))
    refine ⟨?_⟩
    refine iteB H ?_ ?_ <;> clear H <;> rintro rfl H
    · refine bnd H ?_; clear H; intro t167 A6 H
      go_wp2_with (first | (go_at_call 70; (with_reducible refine (Go.Proofs.YtcpaajecppplhaaGreatDoor.K.num_May.calls a1 t167 _ A6.out).mono ?_); rintro e w8 ⟨rfl, hb⟩; replace HB := kS HB hb; (try clear hb); (try clear hb2); (try clear hk); (try clear hi); refine halt ?_))
      refine ⟨?_⟩
      have H' := Aside0.mk H
      clear H
      go_wp2
      go_meet
      case rel => exact ⟨_, (!t167), bkF, H', ⟨by first | omega | exact Nat.le_refl _⟩, ⟨bkB⟩⟩
    · have H' := Aside0.mk H
      clear H
      go_wp2
      go_meet
      case rel => exact ⟨_, (true), bkF, H', ⟨by first | omega | exact Nat.le_refl _⟩, ⟨bkB⟩⟩
  case rest =>
    clear HC3
    try clear c1
    try clear p2
    try clear c5
    try clear c7
    obtain ⟨kq, x15_2, rfl, HA, HJ2, HB⟩ := hcut
    cases kq with
    | zero => exact absurd HA.out (by simp [num_of_Mul1.j0])
    | succ kj2 =>
      have H := HA.out
      clear HA
      simp only [num_of_Mul1.j0] at H
      refine iteB H ?_ ?_ <;> clear H <;> rintro rfl H
      · simp only [Option.some.injEq, Prod.mk.injEq] at H
        obtain ⟨rfl, rfl⟩ := H
        go_wp2
        go_ret2
        exact ⟨bkE, bkB⟩
      · refine bnd2 H ?_; clear H; intro t168 t171 A11 H; try dsimp only at H
        go_wp2_with (first | ((with_reducible refine gate_callee (f := 166) rfl ?_); refine goesC (args := #[.string a0]) Tryz.func166 (some 18) (Go.Proofs.YtcpaajecppplhaaGreatDoor.K.num_read.calls kj2 a0 t168 t171 _ A11.out) ?_; rintro e w15 ⟨v169, rfl, ho0, hb⟩; refine ⟨_, rfl, ?_⟩; have n0_ := Aside0.mk (Kd.V_lower (Kd.V_mono (ok' := fun k_ => True) ho0 (fun k_ hk_ => trivial)) (below_size bkB)); have HO170 := n0_; clear n0_; replace HB := kS HB hb; (try clear hb); (try clear hb2); (try clear hk); (try clear hi); (try clear ho0); refine halt ?_))
        refine ⟨?_⟩
        refine bnd2 H ?_; clear H; intro t172 t175 A12 H; try dsimp only at H
        go_wp2_with (first | ((with_reducible refine gate_callee (f := 166) rfl ?_); refine goesC (args := #[.string a1]) Tryz.func166 (some 20) (Go.Proofs.YtcpaajecppplhaaGreatDoor.K.num_read.calls kj2 a1 t172 t175 _ A12.out) ?_; rintro e w16 ⟨v173, rfl, ho0, hb⟩; refine ⟨_, rfl, ?_⟩; have n1_ := Aside0.mk (Kd.V_lower (Kd.V_mono (ok' := fun k_ => True) ho0 (fun k_ hk_ => trivial)) (below_size bkB)); have HO174 := n1_; clear n1_; replace HO170 := kV HO170 hb; replace HB := kS HB hb; (try clear hb); (try clear hb2); (try clear hk); (try clear hi); (try clear ho0); obtain ⟨Ao17, co17, eo17⟩ := Kd.V_slice HO170.out; subst eo17; obtain ⟨Ao18, co18, eo18⟩ := Kd.V_slice HO174.out; subst eo18; refine halt ?_))
        refine ⟨?_⟩
        refine bnd2 H ?_; clear H; intro t176 t179 A13 H; try dsimp only at H
        go_wp2_with (first | (go_at_call 161; (with_reducible refine (L.num_Mul_1.calls kj2 _ _ t168 t171 _ _ t172 t175 t176 t179 _ ?side1 ?side2 ?side3 ?side4 A13.out).mono ?_); (case side1 => repeat (first | exact (Kd.V_reads' HO170.out).2.2 | (with_reducible refine Kd.C_alloc ?_ _) | (with_reducible refine Kd.C_drewN ?_ _) | (with_reducible refine Kd.C_drew ?_))); (case side2 => exact (Kd.V_reads' HO170.out).2.1); (case side3 => repeat (first | exact (Kd.V_reads' HO174.out).2.2 | (with_reducible refine Kd.C_alloc ?_ _) | (with_reducible refine Kd.C_drewN ?_ _) | (with_reducible refine Kd.C_drew ?_))); (case side4 => exact (Kd.V_reads' HO174.out).2.1); rintro e w19 ⟨v177, rfl, ho0, hb⟩; have n2_ := Aside0.mk (Kd.V_lower (Kd.V_mono (ok' := fun k_ => True) ho0 (fun k_ hk_ => trivial)) (below_size bkB)); have HO178 := n2_; clear n2_; replace HO170 := kV HO170 hb; replace HO174 := kV HO174 hb; replace HB := kS HB hb; (try clear hb); (try clear hb2); (try clear hk); (try clear hi); (try clear ho0); obtain ⟨Ao20, co20, eo20⟩ := Kd.V_slice HO178.out; subst eo20; refine halt ?_))
        refine ⟨?_⟩
        refine bnd2 H ?_; clear H; intro t180 t181 A14 H; try dsimp only at H
        go_wp2_with (first | ((with_reducible refine gate_callee (f := 193) rfl ?_); refine goesC (args := #[.agg #[.slice Ao20 t176.length co20, .bool t179]]) Tryz.func193 (some 22) (num_told.calls kj2 _ _ t176 t179 t180 t181 _ ?side1 ?side2 ?side3 A14.out) ?_; (case side1 => repeat (first | exact (Kd.V_reads' HO178.out).2.2 | (with_reducible refine Kd.C_alloc ?_ _) | (with_reducible refine Kd.C_drewN ?_ _) | (with_reducible refine Kd.C_drew ?_))); (case side2 => exact (Kd.V_reads' HO178.out).2.1); (case side3 => exact Hd.GL.below HGL.out bkB); rintro e w21 ⟨rfl, hb⟩; refine ⟨_, rfl, ?_⟩; replace HO170 := kV HO170 hb; replace HO174 := kV HO174 hb; replace HO178 := kV HO178 hb; replace HB := kS HB hb; (try clear hb); (try clear hb2); (try clear hk); (try clear hi); refine halt ?_))
        refine ⟨?_⟩
        simp only [Option.some.injEq, Prod.mk.injEq] at H
        obtain ⟨rfl, rfl⟩ := H
        go_wp2
        go_ret2
        exact ⟨bkE, bkB⟩
/-! ### num_Add: function 93 -/
def num_Add.f (k : Nat) (a0 : ByteArray) (a1 : ByteArray) : Option (ByteArray × Int) := (num_of_plus.f k a0 a1).bind fun bt182 => (some (bt182.1, bt182.2))
set_option maxHeartbeats 8000000 in
set_option maxRecDepth 100000 in
theorem num_Add.calls (k : Nat) (a0 : ByteArray) (a1 : ByteArray) (r1 : ByteArray) (r2 : Int) (w : World) (hG : Hd.GL w) (h : num_Add.f k a0 a1 = some (r1, r2)) :
    Calls Tryz.prog 93 #[.string a0, .string a1] w fun e w' => e = .returned (.tuple #[.string r1, .int .i64 r2]) ∧ Below w.heap.size w w' := by
  have HGL := Aside0.mk hG
  clear hG
  have HB := Aside0.mk (Below.refl w.heap.size w)
  have H : ((num_of_plus.f k a0 a1).bind fun bt182 => (some (bt182.1, bt182.2))) = some (r1, r2) := h
  clear h
  refine bnd2 H ?_; clear H; intro t182 t183 A3 H; try dsimp only at H
  simp only [Option.some.injEq, Prod.mk.injEq] at H
  obtain ⟨rfl, rfl⟩ := H
  go_enter Tryz.func93, Tryz.ntmps93
  go_wp2_with (first | ((with_reducible refine gate_callee (f := 157) rfl ?_); refine goesL_ (some 8) rfl rfl Tryz.func157 (by kernel_rfl) rfl #[.string a0, .string a1, .func (.func 158) #[] #[]] rfl bkA ?_; (with_reducible refine (num_of_plus.calls k a0 a1 t182 t183 _ ?side1 A3.out).mono ?_); (case side1 => exact Hd.GL.below HGL.out bkB); rintro e w4 ⟨rfl, hb⟩; refine ⟨_, rfl, ?_⟩; replace HB := kS HB hb; (try clear hb); (try clear hb2); (try clear hk); (try clear hi)))
  go_ret2
  exact ⟨bkE, bkB⟩
/-! ### num_Sub: function 94 -/
def num_Sub.f (k : Nat) (a0 : ByteArray) (a1 : ByteArray) : Option (ByteArray × Int) := (num_of_Sub1.f k a0 a1).bind fun bt184 => (some (bt184.1, bt184.2))
set_option maxHeartbeats 8000000 in
set_option maxRecDepth 100000 in
theorem num_Sub.calls (k : Nat) (a0 : ByteArray) (a1 : ByteArray) (r1 : ByteArray) (r2 : Int) (w : World) (hG : Hd.GL w) (h : num_Sub.f k a0 a1 = some (r1, r2)) :
    Calls Tryz.prog 94 #[.string a0, .string a1] w fun e w' => e = .returned (.tuple #[.string r1, .int .i64 r2]) ∧ Below w.heap.size w w' := by
  have HGL := Aside0.mk hG
  clear hG
  have HB := Aside0.mk (Below.refl w.heap.size w)
  have H : ((num_of_Sub1.f k a0 a1).bind fun bt184 => (some (bt184.1, bt184.2))) = some (r1, r2) := h
  clear h
  refine bnd2 H ?_; clear H; intro t184 t185 A3 H; try dsimp only at H
  simp only [Option.some.injEq, Prod.mk.injEq] at H
  obtain ⟨rfl, rfl⟩ := H
  go_enter Tryz.func94, Tryz.ntmps94
  go_wp2_with (first | ((with_reducible refine gate_callee (f := 157) rfl ?_); refine goesL_ (some 8) rfl rfl Tryz.func157 (by kernel_rfl) rfl #[.string a0, .string a1, .func (.func 159) #[] #[]] rfl bkA ?_; (with_reducible refine (num_of_Sub1.calls k a0 a1 t184 t185 _ ?side1 A3.out).mono ?_); (case side1 => exact Hd.GL.below HGL.out bkB); rintro e w4 ⟨rfl, hb⟩; refine ⟨_, rfl, ?_⟩; replace HB := kS HB hb; (try clear hb); (try clear hb2); (try clear hk); (try clear hi)))
  go_ret2
  exact ⟨bkE, bkB⟩
/-! ### num_Mul: function 95 -/
def num_Mul.f (k : Nat) (a0 : ByteArray) (a1 : ByteArray) : Option (ByteArray × Int) := (num_of_Mul1.f k a0 a1).bind fun bt186 => (some (bt186.1, bt186.2))
set_option maxHeartbeats 8000000 in
set_option maxRecDepth 100000 in
theorem num_Mul.calls (k : Nat) (a0 : ByteArray) (a1 : ByteArray) (r1 : ByteArray) (r2 : Int) (w : World) (hG : Hd.GL w) (h : num_Mul.f k a0 a1 = some (r1, r2)) :
    Calls Tryz.prog 95 #[.string a0, .string a1] w fun e w' => e = .returned (.tuple #[.string r1, .int .i64 r2]) ∧ Below w.heap.size w w' := by
  have HGL := Aside0.mk hG
  clear hG
  have HB := Aside0.mk (Below.refl w.heap.size w)
  have H : ((num_of_Mul1.f k a0 a1).bind fun bt186 => (some (bt186.1, bt186.2))) = some (r1, r2) := h
  clear h
  refine bnd2 H ?_; clear H; intro t186 t187 A3 H; try dsimp only at H
  simp only [Option.some.injEq, Prod.mk.injEq] at H
  obtain ⟨rfl, rfl⟩ := H
  go_enter Tryz.func95, Tryz.ntmps95
  go_wp2_with (first | ((with_reducible refine gate_callee (f := 157) rfl ?_); refine goesL_ (some 8) rfl rfl Tryz.func157 (by kernel_rfl) rfl #[.string a0, .string a1, .func (.func 161) #[] #[]] rfl bkA ?_; (with_reducible refine (num_of_Mul1.calls k a0 a1 t186 t187 _ ?side1 A3.out).mono ?_); (case side1 => exact Hd.GL.below HGL.out bkB); rintro e w4 ⟨rfl, hb⟩; refine ⟨_, rfl, ?_⟩; replace HB := kS HB hb; (try clear hb); (try clear hb2); (try clear hk); (try clear hi)))
  go_ret2
  exact ⟨bkE, bkB⟩
/-! ### num_Cmp: function 100 -/
def num_Cmp.j0 : Nat → ByteArray → ByteArray → Bool → Option (Int)
  | 0, _, _, _ => none
  | k + 1, x0, x1, x13 => if x13 = true then (some 0) else ((Go.Proofs.YtcpaajecppplhaaGreatDoor.K.num_read.f k x0).bind fun bt190 => ((Go.Proofs.YtcpaajecppplhaaGreatDoor.K.num_read.f k x1).bind fun bt194 => ((Go.Proofs.YtcpaajecppplhaaGreatDoor.K.num_whole_turned.f bt194.1 bt194.2).bind fun bt198 => ((num_plus.f k bt190.1 bt190.2 bt198.1 bt198.2).bind fun bt202 => (if (bt202.1.length : Int) = 0 then (some 0) else (if bt202.2 = true then (some (-1)) else (some 1)))))))
def num_Cmp.f (k : Nat) (a0 : ByteArray) (a1 : ByteArray) : Option (Int) := (Go.Proofs.YtcpaajecppplhaaGreatDoor.K.num_May.f a0).bind fun t188 => (if t188 = true then ((Go.Proofs.YtcpaajecppplhaaGreatDoor.K.num_May.f a1).bind fun t189 => (num_Cmp.j0 k a0 a1 (!t189))) else (num_Cmp.j0 k a0 a1 true))
set_option maxHeartbeats 8000000 in
set_option maxRecDepth 100000 in
theorem num_Cmp.calls (k : Nat) (a0 : ByteArray) (a1 : ByteArray) (r : Int) (w : World) (h : num_Cmp.f k a0 a1 = some r) :
    Calls Tryz.prog 100 #[.string a0, .string a1] w fun e w' => e = .returned (.int .i64 r) ∧ Below w.heap.size w w' := by
  have hu161 := Tryz.underlying161
  have HB := Aside0.mk (Below.refl w.heap.size w)
  have H : ((Go.Proofs.YtcpaajecppplhaaGreatDoor.K.num_May.f a0).bind fun t188 => (if t188 = true then ((Go.Proofs.YtcpaajecppplhaaGreatDoor.K.num_May.f a1).bind fun t189 => (num_Cmp.j0 k a0 a1 (!t189))) else (num_Cmp.j0 k a0 a1 true))) = some r := h
  clear h
  have HC3 := Aside0.mk H
  clear H
  go_enter Tryz.func100, Tryz.ntmps100
  go_upto_region 1 with (fail)
  go_cut [13] (fun v13 wc => ∃ (kq : Nat) (x13_2 : Bool), v13 = .bool x13_2 ∧ Aside0 (num_Cmp.j0 kq a0 a1 x13_2 = some r) ∧ Aside0 (kq ≤ k) ∧ Aside0 (Below w.heap.size w wc))
  case first =>
    have H := HC3.out
    clear HC3
    refine bnd H ?_; clear H; intro t188 A4 H
    go_wp2_with (first | ((with_reducible refine gate_callee (f := 70) rfl ?_); refine goesB w Tryz.func70 (some 7) (Go.Proofs.YtcpaajecppplhaaGreatDoor.K.num_May.calls _ _ _ A4.out) bkB ?_; clear HB; intro w7 HB; refine halt ?_))
    refine ⟨?_⟩
    refine iteB H ?_ ?_ <;> clear H <;> rintro rfl H
    · refine bnd H ?_; clear H; intro t189 A6 H
      go_wp2_with (first | (go_at_call 70; (with_reducible refine (Go.Proofs.YtcpaajecppplhaaGreatDoor.K.num_May.calls a1 t189 _ A6.out).mono ?_); rintro e w8 ⟨rfl, hb⟩; replace HB := kS HB hb; (try clear hb); (try clear hb2); (try clear hk); (try clear hi); refine halt ?_))
      refine ⟨?_⟩
      have H' := Aside0.mk H
      clear H
      go_wp2
      go_meet
      case rel => exact ⟨_, (!t189), bkF, H', ⟨by first | omega | exact Nat.le_refl _⟩, ⟨bkB⟩⟩
    · have H' := Aside0.mk H
      clear H
      go_wp2
      go_meet
      case rel => exact ⟨_, (true), bkF, H', ⟨by first | omega | exact Nat.le_refl _⟩, ⟨bkB⟩⟩
  case rest =>
    clear HC3
    try clear c1
    try clear p2
    try clear c5
    try clear c7
    obtain ⟨kq, x13_2, rfl, HA, HJ2, HB⟩ := hcut
    cases kq with
    | zero => exact absurd HA.out (by simp [num_Cmp.j0])
    | succ kj2 =>
      have H := HA.out
      clear HA
      simp only [num_Cmp.j0] at H
      refine iteB H ?_ ?_ <;> clear H <;> rintro rfl H
      · obtain rfl := Option.some.inj H
        go_wp2
        go_ret
        exact ⟨bkE, bkB⟩
      · refine bnd2 H ?_; clear H; intro t190 t193 A11 H; try dsimp only at H
        go_wp2_with (first | ((with_reducible refine gate_callee (f := 166) rfl ?_); refine goesC (args := #[.string a0]) Tryz.func166 (some 15) (Go.Proofs.YtcpaajecppplhaaGreatDoor.K.num_read.calls kj2 a0 t190 t193 _ A11.out) ?_; rintro e w16 ⟨v191, rfl, ho0, hb⟩; refine ⟨_, rfl, ?_⟩; have n0_ := Aside0.mk (Kd.V_lower (Kd.V_mono (ok' := fun k_ => True) ho0 (fun k_ hk_ => trivial)) (below_size bkB)); have HO192 := n0_; clear n0_; replace HB := kS HB hb; (try clear hb); (try clear hb2); (try clear hk); (try clear hi); (try clear ho0); refine halt ?_))
        refine ⟨?_⟩
        refine bnd2 H ?_; clear H; intro t194 t197 A12 H; try dsimp only at H
        go_wp2_with (first | ((with_reducible refine gate_callee (f := 166) rfl ?_); refine goesC (args := #[.string a1]) Tryz.func166 (some 17) (Go.Proofs.YtcpaajecppplhaaGreatDoor.K.num_read.calls kj2 a1 t194 t197 _ A12.out) ?_; rintro e w17 ⟨v195, rfl, ho0, hb⟩; refine ⟨_, rfl, ?_⟩; have n1_ := Aside0.mk (Kd.V_lower (Kd.V_mono (ok' := fun k_ => True) ho0 (fun k_ hk_ => trivial)) (below_size bkB)); have HO196 := n1_; clear n1_; replace HO192 := kV HO192 hb; replace HB := kS HB hb; (try clear hb); (try clear hb2); (try clear hk); (try clear hi); (try clear ho0); obtain ⟨Ao18, co18, eo18⟩ := Kd.V_slice HO196.out; subst eo18; refine halt ?_))
        refine ⟨?_⟩
        refine bnd2 H ?_; clear H; intro t198 t201 A13 H; try dsimp only at H
        go_wp2_with (first | ((with_reducible refine gate_callee (f := 160) rfl ?_); refine goesC (args := #[.agg #[.slice Ao18 t194.length co18, .bool t197]]) Tryz.func160 (some 18) (Go.Proofs.YtcpaajecppplhaaGreatDoor.K.num_whole_turned.calls (fun k_ => True) _ _ t194 t197 t198 t201 _ ?side1 A13.out) ?_; (case side1 => exact HO196.out); rintro e w19 ⟨v199, rfl, ho0, hb⟩; refine ⟨_, rfl, ?_⟩; have n2_ := Aside0.mk (Kd.V_lower (Kd.V_mono (ok' := fun k_ => True) ho0 (fun k_ hk_ => trivial)) (below_size bkB)); have HO200 := n2_; clear n2_; replace HO192 := kV HO192 hb; replace HO196 := kV HO196 hb; replace HB := kS HB hb; (try clear hb); (try clear hb2); (try clear hk); (try clear hi); (try clear ho0); obtain ⟨Ao20, co20, eo20⟩ := Kd.V_slice HO192.out; subst eo20; obtain ⟨Ao21, co21, eo21⟩ := Kd.V_slice HO200.out; subst eo21; refine halt ?_))
        refine ⟨?_⟩
        refine bnd2 H ?_; clear H; intro t202 t205 A14 H; try dsimp only at H
        go_wp2_with (first | ((with_reducible refine gate_callee (f := 158) rfl ?_); refine goesC Tryz.func158 (some 19) (num_plus.calls _ _ _ _ _ _ _ _ _ _ _ _ ?side1 ?side2 ?side3 ?side4 A14.out) ?_; (case side1 => repeat (first | exact (Kd.V_reads' HO192.out).2.2 | (with_reducible refine Kd.C_alloc ?_ _) | (with_reducible refine Kd.C_drewN ?_ _) | (with_reducible refine Kd.C_drew ?_))); (case side2 => exact (Kd.V_reads' HO192.out).2.1); (case side3 => repeat (first | exact (Kd.V_reads' HO200.out).2.2 | (with_reducible refine Kd.C_alloc ?_ _) | (with_reducible refine Kd.C_drewN ?_ _) | (with_reducible refine Kd.C_drew ?_))); (case side4 => exact (Kd.V_reads' HO200.out).2.1); rintro e w22 ⟨v203, rfl, ho0, hb⟩; refine ⟨_, rfl, ?_⟩; have n3_ := Aside0.mk (Kd.V_lower (Kd.V_mono (ok' := fun k_ => True) ho0 (fun k_ hk_ => trivial)) (below_size bkB)); have HO204 := n3_; clear n3_; replace HO192 := kV HO192 hb; replace HO196 := kV HO196 hb; replace HO200 := kV HO200 hb; replace HB := kS HB hb; (try clear hb); (try clear hb2); (try clear hk); (try clear hi); (try clear ho0); refine halt ?_))
        refine ⟨?_⟩
        refine iteE H ?_ ?_ <;> clear H <;> intro c15 H
        · have c15b0 : ((t202.length : Int) == 0) = true := beq_iff_eq.mpr c15
          have c15b1 : ((t202.length : Int) != 0) = false := bne_eq_false_iff_eq.mpr c15
          clear c15
          obtain rfl := Option.some.inj H
          go_wp2_with (first | ((with_reducible refine gate_dst (N := 5) rfl ?_); refine box_event ?hg (N := 5) ?hd (cs := #[.slice none 0 0, .bool false]) (t := 161) ?hr ?_; (case hd => rfl); (case hg => rfl); (case hr => first | (go_simp; done) | (go_simp; rfl)); intro gb206 hg w23 hbox hb; have n0_ := Aside0.mk (Kd.V_below (Kd.V_elderB (by (with_reducible repeat (first | apply Kd.V_alloc | apply Kd.V_drewN | apply Kd.V_drew)); exact HO192.out) gb206 (Nat.le_of_eq hg.symm)) hb); have n1_ := Aside0.mk (Kd.V_below (Kd.V_elderB (by (with_reducible repeat (first | apply Kd.V_alloc | apply Kd.V_drewN | apply Kd.V_drew)); exact HO196.out) gb206 (Nat.le_of_eq hg.symm)) hb); have n2_ := Aside0.mk (Kd.V_below (Kd.V_elderB (by (with_reducible repeat (first | apply Kd.V_alloc | apply Kd.V_drewN | apply Kd.V_drew)); exact HO200.out) gb206 (Nat.le_of_eq hg.symm)) hb); have n3_ := Aside0.mk (Kd.V_below (Kd.V_elderB (by (with_reducible repeat (first | apply Kd.V_alloc | apply Kd.V_drewN | apply Kd.V_drew)); exact HO204.out) gb206 (Nat.le_of_eq hg.symm)) hb); have n5_ := Aside0.mk (hbox); have n6_ := Aside0.mk ((by rw [hg]; exact (below_size bkB) : w.heap.size ≤ gb206)); have n7_ := Aside0.mk ((by rw [hg]; exact (below_size bkB) : w.heap.size ≤ gb206)); clear HO192; clear HO196; clear HO200; clear HO204; have HO192 := n0_; have HO196 := n1_; have HO200 := n2_; have HO204 := n3_; have BK206 := n5_; have GW206 := n6_; have GE206 := n7_; clear n0_ n1_ n2_ n3_ n5_ n6_ n7_; replace HB := kS HB hb; clear hb hbox hg; obtain ⟨Ao24, co24, eo24⟩ := Kd.V_slice HO204.out; subst eo24; have hcz25_0 : w23.cell? ⟨gb206, 0, none⟩ = some (.slice none 0 0) := (blk_cell BK206.out 0).trans rfl; have hcz25_1 : w23.cell? ⟨gb206, 1, none⟩ = some (.bool false) := (blk_cell BK206.out 1).trans rfl; have hfz25_0 := blk_frozen BK206.out 0; have hfz25_1 := blk_frozen BK206.out 1))
          go_ret
          exact ⟨bkE, by repeat (first | (with_reducible first | exact HB.out | apply below_alloc | apply pw_below_drewN | apply below_drew1 | refine below_set ?_ GE206.out) | exact HB.out)⟩
        · have c15b0 : ((t202.length : Int) == 0) = false := beq_eq_false_iff_ne.mpr c15
          have c15b1 : ((t202.length : Int) != 0) = true := bne_iff_ne.mpr c15
          have c15b2 : ¬ (t202 = []) := fun h_ => c15 (by rw [h_]; rfl)
          refine iteB H ?_ ?_ <;> clear H <;> rintro rfl H
          · obtain rfl := Option.some.inj H
            go_wp2_with (first | ((with_reducible refine gate_dst (N := 5) rfl ?_); refine box_event ?hg (N := 5) ?hd (cs := #[.slice none 0 0, .bool false]) (t := 161) ?hr ?_; (case hd => rfl); (case hg => rfl); (case hr => first | (go_simp; done) | (go_simp; rfl)); intro gb206 hg w34 hbox hb; have n0_ := Aside0.mk (Kd.V_below (Kd.V_elderB (by (with_reducible repeat (first | apply Kd.V_alloc | apply Kd.V_drewN | apply Kd.V_drew)); exact HO192.out) gb206 (Nat.le_of_eq hg.symm)) hb); have n1_ := Aside0.mk (Kd.V_below (Kd.V_elderB (by (with_reducible repeat (first | apply Kd.V_alloc | apply Kd.V_drewN | apply Kd.V_drew)); exact HO196.out) gb206 (Nat.le_of_eq hg.symm)) hb); have n2_ := Aside0.mk (Kd.V_below (Kd.V_elderB (by (with_reducible repeat (first | apply Kd.V_alloc | apply Kd.V_drewN | apply Kd.V_drew)); exact HO200.out) gb206 (Nat.le_of_eq hg.symm)) hb); have n3_ := Aside0.mk (Kd.V_below (Kd.V_elderB (by (with_reducible repeat (first | apply Kd.V_alloc | apply Kd.V_drewN | apply Kd.V_drew)); exact HO204.out) gb206 (Nat.le_of_eq hg.symm)) hb); have n5_ := Aside0.mk (hbox); have n6_ := Aside0.mk ((by rw [hg]; exact (below_size bkB) : w.heap.size ≤ gb206)); have n7_ := Aside0.mk ((by rw [hg]; exact (below_size bkB) : w.heap.size ≤ gb206)); clear HO192; clear HO196; clear HO200; clear HO204; have HO192 := n0_; have HO196 := n1_; have HO200 := n2_; have HO204 := n3_; have BK206 := n5_; have GW206 := n6_; have GE206 := n7_; clear n0_ n1_ n2_ n3_ n5_ n6_ n7_; replace HB := kS HB hb; clear hb hbox hg; obtain ⟨Ao35, co35, eo35⟩ := Kd.V_slice HO204.out; subst eo35; have hcz36_0 : w34.cell? ⟨gb206, 0, none⟩ = some (.slice none 0 0) := (blk_cell BK206.out 0).trans rfl; have hcz36_1 : w34.cell? ⟨gb206, 1, none⟩ = some (.bool false) := (blk_cell BK206.out 1).trans rfl; have hfz36_0 := blk_frozen BK206.out 0; have hfz36_1 := blk_frozen BK206.out 1))
            go_ret
            exact ⟨bkE, by repeat (first | (with_reducible first | exact HB.out | apply below_alloc | apply pw_below_drewN | apply below_drew1 | refine below_set ?_ GE206.out) | exact HB.out)⟩
          · obtain rfl := Option.some.inj H
            go_wp2_with (first | ((with_reducible refine gate_dst (N := 5) rfl ?_); refine box_event ?hg (N := 5) ?hd (cs := #[.slice none 0 0, .bool false]) (t := 161) ?hr ?_; (case hd => rfl); (case hg => rfl); (case hr => first | (go_simp; done) | (go_simp; rfl)); intro gb206 hg w44 hbox hb; have n0_ := Aside0.mk (Kd.V_below (Kd.V_elderB (by (with_reducible repeat (first | apply Kd.V_alloc | apply Kd.V_drewN | apply Kd.V_drew)); exact HO192.out) gb206 (Nat.le_of_eq hg.symm)) hb); have n1_ := Aside0.mk (Kd.V_below (Kd.V_elderB (by (with_reducible repeat (first | apply Kd.V_alloc | apply Kd.V_drewN | apply Kd.V_drew)); exact HO196.out) gb206 (Nat.le_of_eq hg.symm)) hb); have n2_ := Aside0.mk (Kd.V_below (Kd.V_elderB (by (with_reducible repeat (first | apply Kd.V_alloc | apply Kd.V_drewN | apply Kd.V_drew)); exact HO200.out) gb206 (Nat.le_of_eq hg.symm)) hb); have n3_ := Aside0.mk (Kd.V_below (Kd.V_elderB (by (with_reducible repeat (first | apply Kd.V_alloc | apply Kd.V_drewN | apply Kd.V_drew)); exact HO204.out) gb206 (Nat.le_of_eq hg.symm)) hb); have n5_ := Aside0.mk (hbox); have n6_ := Aside0.mk ((by rw [hg]; exact (below_size bkB) : w.heap.size ≤ gb206)); have n7_ := Aside0.mk ((by rw [hg]; exact (below_size bkB) : w.heap.size ≤ gb206)); clear HO192; clear HO196; clear HO200; clear HO204; have HO192 := n0_; have HO196 := n1_; have HO200 := n2_; have HO204 := n3_; have BK206 := n5_; have GW206 := n6_; have GE206 := n7_; clear n0_ n1_ n2_ n3_ n5_ n6_ n7_; replace HB := kS HB hb; clear hb hbox hg; obtain ⟨Ao45, co45, eo45⟩ := Kd.V_slice HO204.out; subst eo45; have hcz46_0 : w44.cell? ⟨gb206, 0, none⟩ = some (.slice none 0 0) := (blk_cell BK206.out 0).trans rfl; have hcz46_1 : w44.cell? ⟨gb206, 1, none⟩ = some (.bool false) := (blk_cell BK206.out 1).trans rfl; have hfz46_0 := blk_frozen BK206.out 0; have hfz46_1 := blk_frozen BK206.out 1))
            go_ret
            exact ⟨bkE, by repeat (first | (with_reducible first | exact HB.out | apply below_alloc | apply pw_below_drewN | apply below_drew1 | refine below_set ?_ GE206.out) | exact HB.out)⟩
end Go.Proofs.YtcpaajecppplhaaGreatDoor.L
end
