/- What the law leans on, part 21: declarations of several texts of ours, in their order. -/
import Derived.Test.YtaidmohjnbibiaaGreatDoorXF18
import Derived.Test.YtaidmohjnbibiaaGreatDoorXF19
section
namespace Go.Proofs.YtaidmohjnbibiaaGreatDoor.L
open Go.RowKit Go.Proofs.YtaidmohjnbibiaaGreatDoorW.PrintWords Go.Proofs.YtaidmohjnbibiaaGreatDoorW.PrintLast Go.Proofs.YtaidmohjnbibiaaGreatDoorW.PrintMore Go.Proofs.YtaidmohjnbibiaaGreatDoor.B Go.Proofs.YtaidmohjnbibiaaGreatDoor.K
attribute [local go_sem] max2_int min2_int max_two min_two max_three min_three max_four min_four
set_option linter.unusedVariables false
set_option linter.unusedSimpArgs false
/-! ### num_told: function 83 -/
def num_told.j0 : Nat → List Int → Bool → Option (ByteArray × Int)
  | 0, _, _ => none
  | k + 1, x132000, x132001 => (Hd.wtext.f x132000 x132001).bind fun t132 => ((Go.Proofs.YtaidmohjnbibiaaGreatDoor.K.num_May.f t132).bind fun t133 => (if t133 = true then (some (t132, 0)) else (some ((⟨#[]⟩ : ByteArray), 8))))
def num_told.f (k : Nat) (l0_0 : List Int) (a0_1 : Bool) : Option (ByteArray × Int) := if a0_1 = true then (num_told.j0 k l0_0 (decide (0 < l0_0.length))) else (num_told.j0 k l0_0 false)
set_option maxHeartbeats 8000000 in
set_option maxRecDepth 100000 in
theorem num_told.calls (k : Nat) (A0_0 : Option Addr) (c0_0 : Nat) (l0_0 : List Int) (a0_1 : Bool) (r1 : ByteArray) (r2 : Int) (w : World) (hr0_0 : Kd.C (Kd.int .u64) w A0_0 l0_0.length l0_0) (hc0_0 : l0_0.length ≤ c0_0) (hG : Hd.GL w) (h : num_told.f k l0_0 a0_1 = some (r1, r2)) :
    Calls Tryz.prog 83 #[.agg #[.slice A0_0 l0_0.length c0_0, .bool a0_1]] w fun e w' => e = .returned (.tuple #[.string r1, .int .i64 r2]) ∧ Below w.heap.size w w' := by
  have hu47 := Tryz.underlying47
  have HR0_0 := Aside0.mk hr0_0
  have HC0_0 := Aside0.mk hc0_0
  clear hr0_0 hc0_0
  have HGL := Aside0.mk hG
  clear hG
  have HB := Aside0.mk (Below.refl w.heap.size w)
  have H : (if a0_1 = true then (num_told.j0 k l0_0 (decide (0 < l0_0.length))) else (num_told.j0 k l0_0 false)) = some (r1, r2) := h
  clear h
  have HC2 := Aside0.mk H
  clear H
  go_enter Tryz.func83, Tryz.ntmps83
  go_upto_region 1 with (first | ((with_reducible refine gate_dst (N := 1) rfl ?_); (try (refine gate_guard (by rfl) ?_; dsimp only)); refine box_event ?hg (N := 1) ?hd (cs := #[.slice A0_0 l0_0.length c0_0, .bool a0_1]) (t := 47) ?hr ?_; (case hd => rfl); (case hg => rfl); (case hr => first | (go_simp; done) | (go_simp; rfl)); intro gb131 hg w3 hbox hb; have n0_ := Aside0.mk (below_step bkB hb); have n1_ := Aside0.mk (hbox); have n2_ := Aside0.mk ((by rw [hg]; exact (below_size bkB) : w.heap.size ≤ gb131)); have n3_ := Aside0.mk ((by rw [hg]; exact (below_size bkB) : w.heap.size ≤ gb131)); clear HB; have HB := n0_; have BK131 := n1_; have GW131 := n2_; have GE131 := n3_; clear n0_ n1_ n2_ n3_; clear hb hbox hg))
  (try simp only [Act.put, List.setIfInBounds_toArray, List.set_cons_zero, List.set_cons_succ])
  go_cut [] (fun wc => ∃ (kq : Nat) (x132001_1 : Bool), Aside0 (num_told.j0 kq l0_0 x132001_1 = some (r1, r2)) ∧ Aside0 (kq ≤ k) ∧ Aside0 (wc.heap[gb131]? = some (.cells #[(.slice A0_0 l0_0.length c0_0), .bool x132001_1] 47 (0, 0))) ∧ Aside0 (Below w.heap.size w wc))
  case first =>
    have H := HC2.out
    clear HC2
    by_cases c4 : a0_1 = true
    · subst c4
      rw [if_pos rfl] at H
      have H' := Aside0.mk H
      clear H
      have hcz5_0 : w3.cell? ⟨gb131, 0, none⟩ = some (.slice A0_0 l0_0.length c0_0) := (blk_cell BK131.out 0).trans rfl
      have hcz5_1 : w3.cell? ⟨gb131, 1, none⟩ = some (.bool true) := (blk_cell BK131.out 1).trans rfl
      have hfz5_0 := blk_frozen BK131.out 0
      have hfz5_1 := blk_frozen BK131.out 1
      go_wp2
      go_meet
      case rel => exact ⟨_, (decide (0 < l0_0.length)), H', ⟨by first | omega | exact Nat.le_refl _⟩, ⟨by (with_reducible repeat (first | refine blk_drewN ?_ _ | refine blk_drew ?_ | refine blk_alloc ?_ _)); refine blk_put (cs := #[.slice A0_0 l0_0.length c0_0, .bool true]) ?_ 1 _ rfl; (with_reducible repeat (first | refine blk_drewN ?_ _ | refine blk_drew ?_ | refine blk_alloc ?_ _)); exact BK131.out⟩, ⟨by repeat (first | (with_reducible first | exact HB.out | apply below_alloc | apply pw_below_drewN | apply below_drew1 | refine below_set ?_ GE131.out) | exact HB.out)⟩⟩
    · replace c4 := Bool.eq_false_iff.mpr c4
      subst c4
      rw [if_neg Bool.false_ne_true] at H
      have H' := Aside0.mk H
      clear H
      have hcz6_0 : w3.cell? ⟨gb131, 0, none⟩ = some (.slice A0_0 l0_0.length c0_0) := (blk_cell BK131.out 0).trans rfl
      have hcz6_1 : w3.cell? ⟨gb131, 1, none⟩ = some (.bool false) := (blk_cell BK131.out 1).trans rfl
      have hfz6_0 := blk_frozen BK131.out 0
      have hfz6_1 := blk_frozen BK131.out 1
      go_wp2
      go_meet
      case rel => exact ⟨_, (false), H', ⟨by first | omega | exact Nat.le_refl _⟩, ⟨by (with_reducible repeat (first | refine blk_drewN ?_ _ | refine blk_drew ?_ | refine blk_alloc ?_ _)); refine blk_put (cs := #[.slice A0_0 l0_0.length c0_0, .bool false]) ?_ 1 _ rfl; (with_reducible repeat (first | refine blk_drewN ?_ _ | refine blk_drew ?_ | refine blk_alloc ?_ _)); exact BK131.out⟩, ⟨by repeat (first | (with_reducible first | exact HB.out | apply below_alloc | apply pw_below_drewN | apply below_drew1 | refine below_set ?_ GE131.out) | exact HB.out)⟩⟩
  case rest =>
    clear HC2
    try clear p2
    try clear c4
    try clear hcz5_0
    try clear hcz5_1
    try clear hcz6_0
    try clear hcz6_1
    try clear hfz5_0
    try clear hfz5_1
    try clear hfz6_0
    try clear hfz6_1
    obtain ⟨kq, x132001_1, HA, HJ1, BK131, HB⟩ := hcut
    cases kq with
    | zero => exact absurd HA.out (by simp [num_told.j0])
    | succ kj1 =>
      have H := HA.out
      clear HA
      simp only [num_told.j0] at H
      obtain ⟨t132, A70, H⟩ := Option.bind_eq_some_iff.mp H
      try dsimp only at H
      have A7 := Aside0.mk A70
      clear A70
      obtain ⟨t133, A80, H⟩ := Option.bind_eq_some_iff.mp H
      try dsimp only at H
      have A8 := Aside0.mk A80
      clear A80
      by_cases c9 : t133 = true
      · subst c9
        rw [if_pos rfl] at H
        simp only [Option.some.injEq, Prod.mk.injEq] at H
        obtain ⟨rfl, rfl⟩ := H
        have hcz10_0 : wc.cell? ⟨gb131, 0, none⟩ = some (.slice A0_0 l0_0.length c0_0) := (blk_cell BK131.out 0).trans rfl
        have hcz10_1 : wc.cell? ⟨gb131, 1, none⟩ = some (.bool x132001_1) := (blk_cell BK131.out 1).trans rfl
        have hfz10_0 := blk_frozen BK131.out 0
        have hfz10_1 := blk_frozen BK131.out 1
        go_wp2_with (first | ((with_reducible refine gate_callee (f := 71) rfl ?_); refine goesL_ (some 15) rfl rfl Tryz.func71 (by kernel_rfl) rfl #[.agg #[.slice A0_0 l0_0.length c0_0, .bool x132001_1]] rfl bkA ?_; (with_reducible refine (Hd.wtext.calls _ _ l0_0 x132001_1 t132 _ ?side1 ?side2 ?side3 A7.out).mono ?_); (case side1 => repeat (first | exact (Kd.C_below HR0_0.out HB.out) | (with_reducible refine Kd.C_alloc ?_ _) | (with_reducible refine Kd.C_drewN ?_ _) | (with_reducible refine Kd.C_drew ?_))); (case side2 => exact HC0_0.out); (case side3 => refine Hd.GL.below HGL.out ?_; repeat (first | (with_reducible first | exact HB.out | apply below_alloc | apply pw_below_drewN | apply below_drew1 | refine below_set ?_ GE131.out) | exact HB.out)); rintro e w11 ⟨rfl, hb⟩; refine ⟨_, rfl, ?_⟩; have n0_ := Aside0.mk (blk_below (g := gb131) (o := .cells #[.slice A0_0 l0_0.length c0_0, .bool x132001_1] 47 (0, 0)) (by (with_reducible repeat (first | refine blk_drewN ?_ _ | refine blk_drew ?_ | refine blk_alloc ?_ _)); exact BK131.out) hb); have n1_ := Aside0.mk (below_step (by repeat (first | (with_reducible first | exact HB.out | apply below_alloc | apply pw_below_drewN | apply below_drew1 | refine below_set ?_ GE131.out) | exact HB.out)) hb); clear BK131; clear HB; have BK131 := n0_; have HB := n1_; clear n0_ n1_; (try clear hb); (try clear hb2); (try clear hk); (try clear hi)) | ((with_reducible refine gate_callee (f := 10) rfl ?_); refine goesL_ (some 17) rfl rfl Tryz.func10 (by kernel_rfl) rfl #[.string t132] rfl bkA ?_; (with_reducible refine (Go.Proofs.YtaidmohjnbibiaaGreatDoor.K.num_May.calls t132 true _ A8.out).mono ?_); rintro e w12 ⟨rfl, hb⟩; refine ⟨_, rfl, ?_⟩; have n0_ := Aside0.mk (blk_below (g := gb131) (o := .cells #[.slice A0_0 l0_0.length c0_0, .bool x132001_1] 47 (0, 0)) (by (with_reducible repeat (first | refine blk_drewN ?_ _ | refine blk_drew ?_ | refine blk_alloc ?_ _)); exact BK131.out) hb); have n1_ := Aside0.mk (below_step (by repeat (first | (with_reducible first | exact HB.out | apply below_alloc | apply pw_below_drewN | apply below_drew1 | refine below_set ?_ GE131.out) | exact HB.out)) hb); clear BK131; clear HB; have BK131 := n0_; have HB := n1_; clear n0_ n1_; (try clear hb); (try clear hb2); (try clear hk); (try clear hi)))
        go_ret2
        exact ⟨bkE, by repeat (first | (with_reducible first | exact HB.out | apply below_alloc | apply pw_below_drewN | apply below_drew1 | refine below_set ?_ GE131.out) | exact HB.out)⟩
      · replace c9 := Bool.eq_false_iff.mpr c9
        subst c9
        rw [if_neg Bool.false_ne_true] at H
        simp only [Option.some.injEq, Prod.mk.injEq] at H
        obtain ⟨rfl, rfl⟩ := H
        have hcz13_0 : wc.cell? ⟨gb131, 0, none⟩ = some (.slice A0_0 l0_0.length c0_0) := (blk_cell BK131.out 0).trans rfl
        have hcz13_1 : wc.cell? ⟨gb131, 1, none⟩ = some (.bool x132001_1) := (blk_cell BK131.out 1).trans rfl
        have hfz13_0 := blk_frozen BK131.out 0
        have hfz13_1 := blk_frozen BK131.out 1
        go_wp2_with (first | ((with_reducible refine gate_callee (f := 71) rfl ?_); refine goesL_ (some 15) rfl rfl Tryz.func71 (by kernel_rfl) rfl #[.agg #[.slice A0_0 l0_0.length c0_0, .bool x132001_1]] rfl bkA ?_; (with_reducible refine (Hd.wtext.calls _ _ l0_0 x132001_1 t132 _ ?side1 ?side2 ?side3 A7.out).mono ?_); (case side1 => repeat (first | exact (Kd.C_below HR0_0.out HB.out) | (with_reducible refine Kd.C_alloc ?_ _) | (with_reducible refine Kd.C_drewN ?_ _) | (with_reducible refine Kd.C_drew ?_))); (case side2 => exact HC0_0.out); (case side3 => refine Hd.GL.below HGL.out ?_; repeat (first | (with_reducible first | exact HB.out | apply below_alloc | apply pw_below_drewN | apply below_drew1 | refine below_set ?_ GE131.out) | exact HB.out)); rintro e w14 ⟨rfl, hb⟩; refine ⟨_, rfl, ?_⟩; have n0_ := Aside0.mk (blk_below (g := gb131) (o := .cells #[.slice A0_0 l0_0.length c0_0, .bool x132001_1] 47 (0, 0)) (by (with_reducible repeat (first | refine blk_drewN ?_ _ | refine blk_drew ?_ | refine blk_alloc ?_ _)); exact BK131.out) hb); have n1_ := Aside0.mk (below_step (by repeat (first | (with_reducible first | exact HB.out | apply below_alloc | apply pw_below_drewN | apply below_drew1 | refine below_set ?_ GE131.out) | exact HB.out)) hb); clear BK131; clear HB; have BK131 := n0_; have HB := n1_; clear n0_ n1_; (try clear hb); (try clear hb2); (try clear hk); (try clear hi)) | ((with_reducible refine gate_callee (f := 10) rfl ?_); refine goesL_ (some 17) rfl rfl Tryz.func10 (by kernel_rfl) rfl #[.string t132] rfl bkA ?_; (with_reducible refine (Go.Proofs.YtaidmohjnbibiaaGreatDoor.K.num_May.calls t132 false _ A8.out).mono ?_); rintro e w15 ⟨rfl, hb⟩; refine ⟨_, rfl, ?_⟩; have n0_ := Aside0.mk (blk_below (g := gb131) (o := .cells #[.slice A0_0 l0_0.length c0_0, .bool x132001_1] 47 (0, 0)) (by (with_reducible repeat (first | refine blk_drewN ?_ _ | refine blk_drew ?_ | refine blk_alloc ?_ _)); exact BK131.out) hb); have n1_ := Aside0.mk (below_step (by repeat (first | (with_reducible first | exact HB.out | apply below_alloc | apply pw_below_drewN | apply below_drew1 | refine below_set ?_ GE131.out) | exact HB.out)) hb); clear BK131; clear HB; have BK131 := n0_; have HB := n1_; clear n0_ n1_; (try clear hb); (try clear hb2); (try clear hk); (try clear hi)))
        go_ret2
        exact ⟨bkE, by repeat (first | (with_reducible first | exact HB.out | apply below_alloc | apply pw_below_drewN | apply below_drew1 | refine below_set ?_ GE131.out) | exact HB.out)⟩
/-! ### num_of_plus: function 181 -/
def num_of_plus.j0 : Nat → ByteArray → ByteArray → Bool → Option (ByteArray × Int)
  | 0, _, _, _ => none
  | k + 1, x0, x1, x15 => if x15 = true then (some ((⟨#[]⟩ : ByteArray), 1)) else ((Go.Proofs.YtaidmohjnbibiaaGreatDoor.K.num_read.f k x0).bind fun bt136 => ((Go.Proofs.YtaidmohjnbibiaaGreatDoor.K.num_read.f k x1).bind fun bt140 => ((L.num_plus.f k bt136.1 bt136.2 bt140.1 bt140.2).bind fun bt144 => ((num_told.f k bt144.1 bt144.2).bind fun bt148 => (some (bt148.1, bt148.2))))))
def num_of_plus.f (k : Nat) (a0 : ByteArray) (a1 : ByteArray) : Option (ByteArray × Int) := (Go.Proofs.YtaidmohjnbibiaaGreatDoor.K.num_May.f a0).bind fun t134 => (if t134 = true then ((Go.Proofs.YtaidmohjnbibiaaGreatDoor.K.num_May.f a1).bind fun t135 => (num_of_plus.j0 k a0 a1 (!t135))) else (num_of_plus.j0 k a0 a1 true))
set_option maxHeartbeats 8000000 in
set_option maxRecDepth 100000 in
theorem num_of_plus.calls (k : Nat) (a0 : ByteArray) (a1 : ByteArray) (r1 : ByteArray) (r2 : Int) (w : World) (hG : Hd.GL w) (h : num_of_plus.f k a0 a1 = some (r1, r2)) :
    Calls Tryz.prog 59 #[.string a0, .string a1, .func (.func 37) #[] #[]] w fun e w' => e = .returned (.tuple #[.string r1, .int .i64 r2]) ∧ Below w.heap.size w w' := by
  have HGL := Aside0.mk hG
  clear hG
  have HB := Aside0.mk (Below.refl w.heap.size w)
  have H : ((Go.Proofs.YtaidmohjnbibiaaGreatDoor.K.num_May.f a0).bind fun t134 => (if t134 = true then ((Go.Proofs.YtaidmohjnbibiaaGreatDoor.K.num_May.f a1).bind fun t135 => (num_of_plus.j0 k a0 a1 (!t135))) else (num_of_plus.j0 k a0 a1 true))) = some (r1, r2) := h
  clear h
  have HC3 := Aside0.mk H
  clear H
  go_enter Tryz.func59, Tryz.ntmps59
  go_upto_region 1 with (fail)
  go_cut [15] (fun v15 wc => ∃ (kq : Nat) (x15_2 : Bool), v15 = .bool x15_2 ∧ Aside0 (num_of_plus.j0 kq a0 a1 x15_2 = some (r1, r2)) ∧ Aside0 (kq ≤ k) ∧ Aside0 (Below w.heap.size w wc))
  case first =>
    have H := HC3.out
    clear HC3
    obtain ⟨t134, A40, H⟩ := Option.bind_eq_some_iff.mp H
    try dsimp only at H
    have A4 := Aside0.mk A40
    clear A40
    by_cases c5 : t134 = true
    · subst c5
      rw [if_pos rfl] at H
      obtain ⟨t135, A60, H⟩ := Option.bind_eq_some_iff.mp H
      try dsimp only at H
      have A6 := Aside0.mk A60
      clear A60
      have H' := Aside0.mk H
      clear H
      go_wp2_with (first | ((with_reducible refine gate_callee (f := 10) rfl ?_); refine goesL_ (some 9) rfl rfl Tryz.func10 (by kernel_rfl) rfl #[.string a0] rfl bkA ?_; (with_reducible refine (Go.Proofs.YtaidmohjnbibiaaGreatDoor.K.num_May.calls a0 true _ A4.out).mono ?_); rintro e w7 ⟨rfl, hb⟩; refine ⟨_, rfl, ?_⟩; replace HB := bkS hb; clear hb; (try clear hb2); (try clear hk); (try clear hi)) | (go_at_call 10; (with_reducible refine (Go.Proofs.YtaidmohjnbibiaaGreatDoor.K.num_May.calls a1 t135 _ A6.out).mono ?_); rintro e w8 ⟨rfl, hb⟩; replace HB := bkS hb; clear hb; (try clear hb2); (try clear hk); (try clear hi)))
      go_meet
      case rel => exact ⟨_, (!t135), bkF, H', ⟨by first | omega | exact Nat.le_refl _⟩, ⟨bkB⟩⟩
    · replace c5 := Bool.eq_false_iff.mpr c5
      subst c5
      rw [if_neg Bool.false_ne_true] at H
      have H' := Aside0.mk H
      clear H
      go_wp2_with (first | ((with_reducible refine gate_callee (f := 10) rfl ?_); refine goesL_ (some 9) rfl rfl Tryz.func10 (by kernel_rfl) rfl #[.string a0] rfl bkA ?_; (with_reducible refine (Go.Proofs.YtaidmohjnbibiaaGreatDoor.K.num_May.calls a0 false _ A4.out).mono ?_); rintro e w9 ⟨rfl, hb⟩; refine ⟨_, rfl, ?_⟩; replace HB := bkS hb; clear hb; (try clear hb2); (try clear hk); (try clear hi)))
      go_meet
      case rel => exact ⟨_, (true), bkF, H', ⟨by first | omega | exact Nat.le_refl _⟩, ⟨bkB⟩⟩
  case rest =>
    clear HC3
    try clear c1
    try clear p2
    try clear c5
    obtain ⟨kq, x15_2, rfl, HA, HJ2, HB⟩ := hcut
    cases kq with
    | zero => exact absurd HA.out (by simp [num_of_plus.j0])
    | succ kj2 =>
      have H := HA.out
      clear HA
      simp only [num_of_plus.j0] at H
      by_cases c10 : x15_2 = true
      · subst c10
        rw [if_pos rfl] at H
        simp only [Option.some.injEq, Prod.mk.injEq] at H
        obtain ⟨rfl, rfl⟩ := H
        go_wp2
        go_ret2
        exact ⟨bkE, bkB⟩
      · replace c10 := Bool.eq_false_iff.mpr c10
        subst c10
        rw [if_neg Bool.false_ne_true] at H
        obtain ⟨⟨t136, t139⟩, A110, H⟩ := Option.bind_eq_some_iff.mp H
        try dsimp only at H
        have A11 := Aside0.mk A110
        clear A110
        obtain ⟨⟨t140, t143⟩, A120, H⟩ := Option.bind_eq_some_iff.mp H
        try dsimp only at H
        have A12 := Aside0.mk A120
        clear A120
        obtain ⟨⟨t144, t147⟩, A130, H⟩ := Option.bind_eq_some_iff.mp H
        try dsimp only at H
        have A13 := Aside0.mk A130
        clear A130
        obtain ⟨⟨t148, t149⟩, A140, H⟩ := Option.bind_eq_some_iff.mp H
        try dsimp only at H
        have A14 := Aside0.mk A140
        clear A140
        simp only [Option.some.injEq, Prod.mk.injEq] at H
        obtain ⟨rfl, rfl⟩ := H
        go_wp2_with (first | ((with_reducible refine gate_callee (f := 38) rfl ?_); refine goesL_ (some 18) rfl rfl Tryz.func38 (by kernel_rfl) rfl #[.string a0] rfl bkA ?_; (with_reducible refine (Go.Proofs.YtaidmohjnbibiaaGreatDoor.K.num_read.calls kj2 a0 t136 t139 _ A11.out).mono ?_); rintro e w15 ⟨v137, rfl, ho0, hb⟩; refine ⟨_, rfl, ?_⟩; have n0_ := Aside0.mk (Kd.V_lower (Kd.V_mono (ok' := fun k_ => True) ho0 (fun k_ hk_ => trivial)) (below_size bkB)); have n1_ := Aside0.mk (below_step bkB hb); clear HB; have HO138 := n0_; have HB := n1_; clear n0_ n1_; (try clear hb); (try clear hb2); (try clear hk); (try clear hi); (try clear ho0)) | ((with_reducible refine gate_callee (f := 38) rfl ?_); refine goesL_ (some 20) rfl rfl Tryz.func38 (by kernel_rfl) rfl #[.string a1] rfl bkA ?_; (with_reducible refine (Go.Proofs.YtaidmohjnbibiaaGreatDoor.K.num_read.calls kj2 a1 t140 t143 _ A12.out).mono ?_); rintro e w16 ⟨v141, rfl, ho0, hb⟩; refine ⟨_, rfl, ?_⟩; have n0_ := Aside0.mk (Kd.V_below (by (with_reducible repeat (first | apply Kd.V_alloc | apply Kd.V_drewN | apply Kd.V_drew)); exact HO138.out) hb); have n1_ := Aside0.mk (Kd.V_lower (Kd.V_mono (ok' := fun k_ => True) ho0 (fun k_ hk_ => trivial)) (below_size bkB)); have n2_ := Aside0.mk (below_step bkB hb); clear HO138; clear HB; have HO138 := n0_; have HO142 := n1_; have HB := n2_; clear n0_ n1_ n2_; (try clear hb); (try clear hb2); (try clear hk); (try clear hi); (try clear ho0); obtain ⟨Ao17, co17, eo17⟩ := Kd.V_slice HO138.out; subst eo17; obtain ⟨Ao18, co18, eo18⟩ := Kd.V_slice HO142.out; subst eo18) | (go_at_call 37; (with_reducible refine (L.num_plus.calls kj2 _ _ t136 t139 _ _ t140 t143 t144 t147 _ ?side1 ?side2 ?side3 ?side4 A13.out).mono ?_); (case side1 => repeat (first | exact (Kd.V_reads' HO138.out).2.2 | (with_reducible refine Kd.C_alloc ?_ _) | (with_reducible refine Kd.C_drewN ?_ _) | (with_reducible refine Kd.C_drew ?_))); (case side2 => exact (Kd.V_reads' HO138.out).2.1); (case side3 => repeat (first | exact (Kd.V_reads' HO142.out).2.2 | (with_reducible refine Kd.C_alloc ?_ _) | (with_reducible refine Kd.C_drewN ?_ _) | (with_reducible refine Kd.C_drew ?_))); (case side4 => exact (Kd.V_reads' HO142.out).2.1); rintro e w19 ⟨v145, rfl, ho0, hb⟩; have n0_ := Aside0.mk (Kd.V_below (by (with_reducible repeat (first | apply Kd.V_alloc | apply Kd.V_drewN | apply Kd.V_drew)); exact HO138.out) hb); have n1_ := Aside0.mk (Kd.V_below (by (with_reducible repeat (first | apply Kd.V_alloc | apply Kd.V_drewN | apply Kd.V_drew)); exact HO142.out) hb); have n2_ := Aside0.mk (Kd.V_lower (Kd.V_mono (ok' := fun k_ => True) ho0 (fun k_ hk_ => trivial)) (below_size bkB)); have n3_ := Aside0.mk (below_step bkB hb); clear HO138; clear HO142; clear HB; have HO138 := n0_; have HO142 := n1_; have HO146 := n2_; have HB := n3_; clear n0_ n1_ n2_ n3_; (try clear hb); (try clear hb2); (try clear hk); (try clear hi); (try clear ho0); obtain ⟨Ao20, co20, eo20⟩ := Kd.V_slice HO146.out; subst eo20) | ((with_reducible refine gate_callee (f := 83) rfl ?_); refine goesL_ (some 22) rfl rfl Tryz.func83 (by kernel_rfl) rfl #[.agg #[.slice Ao20 t144.length co20, .bool t147]] rfl bkA ?_; (with_reducible refine (num_told.calls kj2 _ _ t144 t147 t148 t149 _ ?side1 ?side2 ?side3 A14.out).mono ?_); (case side1 => repeat (first | exact (Kd.V_reads' HO146.out).2.2 | (with_reducible refine Kd.C_alloc ?_ _) | (with_reducible refine Kd.C_drewN ?_ _) | (with_reducible refine Kd.C_drew ?_))); (case side2 => exact (Kd.V_reads' HO146.out).2.1); (case side3 => exact Hd.GL.below HGL.out bkB); rintro e w21 ⟨rfl, hb⟩; refine ⟨_, rfl, ?_⟩; have n0_ := Aside0.mk (Kd.V_below (by (with_reducible repeat (first | apply Kd.V_alloc | apply Kd.V_drewN | apply Kd.V_drew)); exact HO138.out) hb); have n1_ := Aside0.mk (Kd.V_below (by (with_reducible repeat (first | apply Kd.V_alloc | apply Kd.V_drewN | apply Kd.V_drew)); exact HO142.out) hb); have n2_ := Aside0.mk (Kd.V_below (by (with_reducible repeat (first | apply Kd.V_alloc | apply Kd.V_drewN | apply Kd.V_drew)); exact HO146.out) hb); have n3_ := Aside0.mk (below_step bkB hb); clear HO138; clear HO142; clear HO146; clear HB; have HO138 := n0_; have HO142 := n1_; have HO146 := n2_; have HB := n3_; clear n0_ n1_ n2_ n3_; (try clear hb); (try clear hb2); (try clear hk); (try clear hi)))
        go_ret2
        exact ⟨bkE, bkB⟩
/-! ### num_of_Sub1: function 183 -/
def num_of_Sub1.j0 : Nat → ByteArray → ByteArray → Bool → Option (ByteArray × Int)
  | 0, _, _, _ => none
  | k + 1, x0, x1, x15 => if x15 = true then (some ((⟨#[]⟩ : ByteArray), 1)) else ((Go.Proofs.YtaidmohjnbibiaaGreatDoor.K.num_read.f k x0).bind fun bt152 => ((Go.Proofs.YtaidmohjnbibiaaGreatDoor.K.num_read.f k x1).bind fun bt156 => ((L.num_Sub_1.f k bt152.1 bt152.2 bt156.1 bt156.2).bind fun bt160 => ((num_told.f k bt160.1 bt160.2).bind fun bt164 => (some (bt164.1, bt164.2))))))
def num_of_Sub1.f (k : Nat) (a0 : ByteArray) (a1 : ByteArray) : Option (ByteArray × Int) := (Go.Proofs.YtaidmohjnbibiaaGreatDoor.K.num_May.f a0).bind fun t150 => (if t150 = true then ((Go.Proofs.YtaidmohjnbibiaaGreatDoor.K.num_May.f a1).bind fun t151 => (num_of_Sub1.j0 k a0 a1 (!t151))) else (num_of_Sub1.j0 k a0 a1 true))
set_option maxHeartbeats 8000000 in
set_option maxRecDepth 100000 in
theorem num_of_Sub1.calls (k : Nat) (a0 : ByteArray) (a1 : ByteArray) (r1 : ByteArray) (r2 : Int) (w : World) (hG : Hd.GL w) (h : num_of_Sub1.f k a0 a1 = some (r1, r2)) :
    Calls Tryz.prog 59 #[.string a0, .string a1, .func (.func 60) #[] #[]] w fun e w' => e = .returned (.tuple #[.string r1, .int .i64 r2]) ∧ Below w.heap.size w w' := by
  have HGL := Aside0.mk hG
  clear hG
  have HB := Aside0.mk (Below.refl w.heap.size w)
  have H : ((Go.Proofs.YtaidmohjnbibiaaGreatDoor.K.num_May.f a0).bind fun t150 => (if t150 = true then ((Go.Proofs.YtaidmohjnbibiaaGreatDoor.K.num_May.f a1).bind fun t151 => (num_of_Sub1.j0 k a0 a1 (!t151))) else (num_of_Sub1.j0 k a0 a1 true))) = some (r1, r2) := h
  clear h
  have HC3 := Aside0.mk H
  clear H
  go_enter Tryz.func59, Tryz.ntmps59
  go_upto_region 1 with (fail)
  go_cut [15] (fun v15 wc => ∃ (kq : Nat) (x15_2 : Bool), v15 = .bool x15_2 ∧ Aside0 (num_of_Sub1.j0 kq a0 a1 x15_2 = some (r1, r2)) ∧ Aside0 (kq ≤ k) ∧ Aside0 (Below w.heap.size w wc))
  case first =>
    have H := HC3.out
    clear HC3
    obtain ⟨t150, A40, H⟩ := Option.bind_eq_some_iff.mp H
    try dsimp only at H
    have A4 := Aside0.mk A40
    clear A40
    by_cases c5 : t150 = true
    · subst c5
      rw [if_pos rfl] at H
      obtain ⟨t151, A60, H⟩ := Option.bind_eq_some_iff.mp H
      try dsimp only at H
      have A6 := Aside0.mk A60
      clear A60
      have H' := Aside0.mk H
      clear H
      go_wp2_with (first | ((with_reducible refine gate_callee (f := 10) rfl ?_); refine goesL_ (some 9) rfl rfl Tryz.func10 (by kernel_rfl) rfl #[.string a0] rfl bkA ?_; (with_reducible refine (Go.Proofs.YtaidmohjnbibiaaGreatDoor.K.num_May.calls a0 true _ A4.out).mono ?_); rintro e w7 ⟨rfl, hb⟩; refine ⟨_, rfl, ?_⟩; replace HB := bkS hb; clear hb; (try clear hb2); (try clear hk); (try clear hi)) | (go_at_call 10; (with_reducible refine (Go.Proofs.YtaidmohjnbibiaaGreatDoor.K.num_May.calls a1 t151 _ A6.out).mono ?_); rintro e w8 ⟨rfl, hb⟩; replace HB := bkS hb; clear hb; (try clear hb2); (try clear hk); (try clear hi)))
      go_meet
      case rel => exact ⟨_, (!t151), bkF, H', ⟨by first | omega | exact Nat.le_refl _⟩, ⟨bkB⟩⟩
    · replace c5 := Bool.eq_false_iff.mpr c5
      subst c5
      rw [if_neg Bool.false_ne_true] at H
      have H' := Aside0.mk H
      clear H
      go_wp2_with (first | ((with_reducible refine gate_callee (f := 10) rfl ?_); refine goesL_ (some 9) rfl rfl Tryz.func10 (by kernel_rfl) rfl #[.string a0] rfl bkA ?_; (with_reducible refine (Go.Proofs.YtaidmohjnbibiaaGreatDoor.K.num_May.calls a0 false _ A4.out).mono ?_); rintro e w9 ⟨rfl, hb⟩; refine ⟨_, rfl, ?_⟩; replace HB := bkS hb; clear hb; (try clear hb2); (try clear hk); (try clear hi)))
      go_meet
      case rel => exact ⟨_, (true), bkF, H', ⟨by first | omega | exact Nat.le_refl _⟩, ⟨bkB⟩⟩
  case rest =>
    clear HC3
    try clear c1
    try clear p2
    try clear c5
    obtain ⟨kq, x15_2, rfl, HA, HJ2, HB⟩ := hcut
    cases kq with
    | zero => exact absurd HA.out (by simp [num_of_Sub1.j0])
    | succ kj2 =>
      have H := HA.out
      clear HA
      simp only [num_of_Sub1.j0] at H
      by_cases c10 : x15_2 = true
      · subst c10
        rw [if_pos rfl] at H
        simp only [Option.some.injEq, Prod.mk.injEq] at H
        obtain ⟨rfl, rfl⟩ := H
        go_wp2
        go_ret2
        exact ⟨bkE, bkB⟩
      · replace c10 := Bool.eq_false_iff.mpr c10
        subst c10
        rw [if_neg Bool.false_ne_true] at H
        obtain ⟨⟨t152, t155⟩, A110, H⟩ := Option.bind_eq_some_iff.mp H
        try dsimp only at H
        have A11 := Aside0.mk A110
        clear A110
        obtain ⟨⟨t156, t159⟩, A120, H⟩ := Option.bind_eq_some_iff.mp H
        try dsimp only at H
        have A12 := Aside0.mk A120
        clear A120
        obtain ⟨⟨t160, t163⟩, A130, H⟩ := Option.bind_eq_some_iff.mp H
        try dsimp only at H
        have A13 := Aside0.mk A130
        clear A130
        obtain ⟨⟨t164, t165⟩, A140, H⟩ := Option.bind_eq_some_iff.mp H
        try dsimp only at H
        have A14 := Aside0.mk A140
        clear A140
        simp only [Option.some.injEq, Prod.mk.injEq] at H
        obtain ⟨rfl, rfl⟩ := H
        go_wp2_with (first | ((with_reducible refine gate_callee (f := 38) rfl ?_); refine goesL_ (some 18) rfl rfl Tryz.func38 (by kernel_rfl) rfl #[.string a0] rfl bkA ?_; (with_reducible refine (Go.Proofs.YtaidmohjnbibiaaGreatDoor.K.num_read.calls kj2 a0 t152 t155 _ A11.out).mono ?_); rintro e w15 ⟨v153, rfl, ho0, hb⟩; refine ⟨_, rfl, ?_⟩; have n0_ := Aside0.mk (Kd.V_lower (Kd.V_mono (ok' := fun k_ => True) ho0 (fun k_ hk_ => trivial)) (below_size bkB)); have n1_ := Aside0.mk (below_step bkB hb); clear HB; have HO154 := n0_; have HB := n1_; clear n0_ n1_; (try clear hb); (try clear hb2); (try clear hk); (try clear hi); (try clear ho0)) | ((with_reducible refine gate_callee (f := 38) rfl ?_); refine goesL_ (some 20) rfl rfl Tryz.func38 (by kernel_rfl) rfl #[.string a1] rfl bkA ?_; (with_reducible refine (Go.Proofs.YtaidmohjnbibiaaGreatDoor.K.num_read.calls kj2 a1 t156 t159 _ A12.out).mono ?_); rintro e w16 ⟨v157, rfl, ho0, hb⟩; refine ⟨_, rfl, ?_⟩; have n0_ := Aside0.mk (Kd.V_below (by (with_reducible repeat (first | apply Kd.V_alloc | apply Kd.V_drewN | apply Kd.V_drew)); exact HO154.out) hb); have n1_ := Aside0.mk (Kd.V_lower (Kd.V_mono (ok' := fun k_ => True) ho0 (fun k_ hk_ => trivial)) (below_size bkB)); have n2_ := Aside0.mk (below_step bkB hb); clear HO154; clear HB; have HO154 := n0_; have HO158 := n1_; have HB := n2_; clear n0_ n1_ n2_; (try clear hb); (try clear hb2); (try clear hk); (try clear hi); (try clear ho0); obtain ⟨Ao17, co17, eo17⟩ := Kd.V_slice HO154.out; subst eo17; obtain ⟨Ao18, co18, eo18⟩ := Kd.V_slice HO158.out; subst eo18) | (go_at_call 60; (with_reducible refine (L.num_Sub_1.calls kj2 _ _ t152 t155 (fun k_ => True) _ _ t156 t159 t160 t163 _ ?side1 ?side2 ?side3 A13.out).mono ?_); (case side1 => repeat (first | exact (Kd.V_reads' HO154.out).2.2 | (with_reducible refine Kd.C_alloc ?_ _) | (with_reducible refine Kd.C_drewN ?_ _) | (with_reducible refine Kd.C_drew ?_))); (case side2 => exact (Kd.V_reads' HO154.out).2.1); (case side3 => exact HO158.out); rintro e w19 ⟨v161, rfl, ho0, hb⟩; have n0_ := Aside0.mk (Kd.V_below (by (with_reducible repeat (first | apply Kd.V_alloc | apply Kd.V_drewN | apply Kd.V_drew)); exact HO154.out) hb); have n1_ := Aside0.mk (Kd.V_below (by (with_reducible repeat (first | apply Kd.V_alloc | apply Kd.V_drewN | apply Kd.V_drew)); exact HO158.out) hb); have n2_ := Aside0.mk (Kd.V_lower (Kd.V_mono (ok' := fun k_ => True) ho0 (fun k_ hk_ => trivial)) (below_size bkB)); have n3_ := Aside0.mk (below_step bkB hb); clear HO154; clear HO158; clear HB; have HO154 := n0_; have HO158 := n1_; have HO162 := n2_; have HB := n3_; clear n0_ n1_ n2_ n3_; (try clear hb); (try clear hb2); (try clear hk); (try clear hi); (try clear ho0); obtain ⟨Ao20, co20, eo20⟩ := Kd.V_slice HO162.out; subst eo20) | ((with_reducible refine gate_callee (f := 83) rfl ?_); refine goesL_ (some 22) rfl rfl Tryz.func83 (by kernel_rfl) rfl #[.agg #[.slice Ao20 t160.length co20, .bool t163]] rfl bkA ?_; (with_reducible refine (num_told.calls kj2 _ _ t160 t163 t164 t165 _ ?side1 ?side2 ?side3 A14.out).mono ?_); (case side1 => repeat (first | exact (Kd.V_reads' HO162.out).2.2 | (with_reducible refine Kd.C_alloc ?_ _) | (with_reducible refine Kd.C_drewN ?_ _) | (with_reducible refine Kd.C_drew ?_))); (case side2 => exact (Kd.V_reads' HO162.out).2.1); (case side3 => exact Hd.GL.below HGL.out bkB); rintro e w21 ⟨rfl, hb⟩; refine ⟨_, rfl, ?_⟩; have n0_ := Aside0.mk (Kd.V_below (by (with_reducible repeat (first | apply Kd.V_alloc | apply Kd.V_drewN | apply Kd.V_drew)); exact HO154.out) hb); have n1_ := Aside0.mk (Kd.V_below (by (with_reducible repeat (first | apply Kd.V_alloc | apply Kd.V_drewN | apply Kd.V_drew)); exact HO158.out) hb); have n2_ := Aside0.mk (Kd.V_below (by (with_reducible repeat (first | apply Kd.V_alloc | apply Kd.V_drewN | apply Kd.V_drew)); exact HO162.out) hb); have n3_ := Aside0.mk (below_step bkB hb); clear HO154; clear HO158; clear HO162; clear HB; have HO154 := n0_; have HO158 := n1_; have HO162 := n2_; have HB := n3_; clear n0_ n1_ n2_ n3_; (try clear hb); (try clear hb2); (try clear hk); (try clear hi)))
        go_ret2
        exact ⟨bkE, bkB⟩
/-! ### num_of_Mul1: function 185 -/
def num_of_Mul1.j0 : Nat → ByteArray → ByteArray → Bool → Option (ByteArray × Int)
  | 0, _, _, _ => none
  | k + 1, x0, x1, x15 => if x15 = true then (some ((⟨#[]⟩ : ByteArray), 1)) else ((Go.Proofs.YtaidmohjnbibiaaGreatDoor.K.num_read.f k x0).bind fun bt168 => ((Go.Proofs.YtaidmohjnbibiaaGreatDoor.K.num_read.f k x1).bind fun bt172 => ((L.num_Mul_1.f k bt168.1 bt168.2 bt172.1 bt172.2).bind fun bt176 => ((num_told.f k bt176.1 bt176.2).bind fun bt180 => (some (bt180.1, bt180.2))))))
def num_of_Mul1.f (k : Nat) (a0 : ByteArray) (a1 : ByteArray) : Option (ByteArray × Int) := (Go.Proofs.YtaidmohjnbibiaaGreatDoor.K.num_May.f a0).bind fun t166 => (if t166 = true then ((Go.Proofs.YtaidmohjnbibiaaGreatDoor.K.num_May.f a1).bind fun t167 => (num_of_Mul1.j0 k a0 a1 (!t167))) else (num_of_Mul1.j0 k a0 a1 true))
set_option maxHeartbeats 8000000 in
set_option maxRecDepth 100000 in
theorem num_of_Mul1.calls (k : Nat) (a0 : ByteArray) (a1 : ByteArray) (r1 : ByteArray) (r2 : Int) (w : World) (hG : Hd.GL w) (h : num_of_Mul1.f k a0 a1 = some (r1, r2)) :
    Calls Tryz.prog 59 #[.string a0, .string a1, .func (.func 61) #[] #[]] w fun e w' => e = .returned (.tuple #[.string r1, .int .i64 r2]) ∧ Below w.heap.size w w' := by
  have HGL := Aside0.mk hG
  clear hG
  have HB := Aside0.mk (Below.refl w.heap.size w)
  have H : ((Go.Proofs.YtaidmohjnbibiaaGreatDoor.K.num_May.f a0).bind fun t166 => (if t166 = true then ((Go.Proofs.YtaidmohjnbibiaaGreatDoor.K.num_May.f a1).bind fun t167 => (num_of_Mul1.j0 k a0 a1 (!t167))) else (num_of_Mul1.j0 k a0 a1 true))) = some (r1, r2) := h
  clear h
  have HC3 := Aside0.mk H
  clear H
  go_enter Tryz.func59, Tryz.ntmps59
  go_upto_region 1 with (fail)
  go_cut [15] (fun v15 wc => ∃ (kq : Nat) (x15_2 : Bool), v15 = .bool x15_2 ∧ Aside0 (num_of_Mul1.j0 kq a0 a1 x15_2 = some (r1, r2)) ∧ Aside0 (kq ≤ k) ∧ Aside0 (Below w.heap.size w wc))
  case first =>
    have H := HC3.out
    clear HC3
    obtain ⟨t166, A40, H⟩ := Option.bind_eq_some_iff.mp H
    try dsimp only at H
    have A4 := Aside0.mk A40
    clear A40
    by_cases c5 : t166 = true
    · subst c5
      rw [if_pos rfl] at H
      obtain ⟨t167, A60, H⟩ := Option.bind_eq_some_iff.mp H
      try dsimp only at H
      have A6 := Aside0.mk A60
      clear A60
      have H' := Aside0.mk H
      clear H
      go_wp2_with (first | ((with_reducible refine gate_callee (f := 10) rfl ?_); refine goesL_ (some 9) rfl rfl Tryz.func10 (by kernel_rfl) rfl #[.string a0] rfl bkA ?_; (with_reducible refine (Go.Proofs.YtaidmohjnbibiaaGreatDoor.K.num_May.calls a0 true _ A4.out).mono ?_); rintro e w7 ⟨rfl, hb⟩; refine ⟨_, rfl, ?_⟩; replace HB := bkS hb; clear hb; (try clear hb2); (try clear hk); (try clear hi)) | (go_at_call 10; (with_reducible refine (Go.Proofs.YtaidmohjnbibiaaGreatDoor.K.num_May.calls a1 t167 _ A6.out).mono ?_); rintro e w8 ⟨rfl, hb⟩; replace HB := bkS hb; clear hb; (try clear hb2); (try clear hk); (try clear hi)))
      go_meet
      case rel => exact ⟨_, (!t167), bkF, H', ⟨by first | omega | exact Nat.le_refl _⟩, ⟨bkB⟩⟩
    · replace c5 := Bool.eq_false_iff.mpr c5
      subst c5
      rw [if_neg Bool.false_ne_true] at H
      have H' := Aside0.mk H
      clear H
      go_wp2_with (first | ((with_reducible refine gate_callee (f := 10) rfl ?_); refine goesL_ (some 9) rfl rfl Tryz.func10 (by kernel_rfl) rfl #[.string a0] rfl bkA ?_; (with_reducible refine (Go.Proofs.YtaidmohjnbibiaaGreatDoor.K.num_May.calls a0 false _ A4.out).mono ?_); rintro e w9 ⟨rfl, hb⟩; refine ⟨_, rfl, ?_⟩; replace HB := bkS hb; clear hb; (try clear hb2); (try clear hk); (try clear hi)))
      go_meet
      case rel => exact ⟨_, (true), bkF, H', ⟨by first | omega | exact Nat.le_refl _⟩, ⟨bkB⟩⟩
  case rest =>
    clear HC3
    try clear c1
    try clear p2
    try clear c5
    obtain ⟨kq, x15_2, rfl, HA, HJ2, HB⟩ := hcut
    cases kq with
    | zero => exact absurd HA.out (by simp [num_of_Mul1.j0])
    | succ kj2 =>
      have H := HA.out
      clear HA
      simp only [num_of_Mul1.j0] at H
      by_cases c10 : x15_2 = true
      · subst c10
        rw [if_pos rfl] at H
        simp only [Option.some.injEq, Prod.mk.injEq] at H
        obtain ⟨rfl, rfl⟩ := H
        go_wp2
        go_ret2
        exact ⟨bkE, bkB⟩
      · replace c10 := Bool.eq_false_iff.mpr c10
        subst c10
        rw [if_neg Bool.false_ne_true] at H
        obtain ⟨⟨t168, t171⟩, A110, H⟩ := Option.bind_eq_some_iff.mp H
        try dsimp only at H
        have A11 := Aside0.mk A110
        clear A110
        obtain ⟨⟨t172, t175⟩, A120, H⟩ := Option.bind_eq_some_iff.mp H
        try dsimp only at H
        have A12 := Aside0.mk A120
        clear A120
        obtain ⟨⟨t176, t179⟩, A130, H⟩ := Option.bind_eq_some_iff.mp H
        try dsimp only at H
        have A13 := Aside0.mk A130
        clear A130
        obtain ⟨⟨t180, t181⟩, A140, H⟩ := Option.bind_eq_some_iff.mp H
        try dsimp only at H
        have A14 := Aside0.mk A140
        clear A140
        simp only [Option.some.injEq, Prod.mk.injEq] at H
        obtain ⟨rfl, rfl⟩ := H
        go_wp2_with (first | ((with_reducible refine gate_callee (f := 38) rfl ?_); refine goesL_ (some 18) rfl rfl Tryz.func38 (by kernel_rfl) rfl #[.string a0] rfl bkA ?_; (with_reducible refine (Go.Proofs.YtaidmohjnbibiaaGreatDoor.K.num_read.calls kj2 a0 t168 t171 _ A11.out).mono ?_); rintro e w15 ⟨v169, rfl, ho0, hb⟩; refine ⟨_, rfl, ?_⟩; have n0_ := Aside0.mk (Kd.V_lower (Kd.V_mono (ok' := fun k_ => True) ho0 (fun k_ hk_ => trivial)) (below_size bkB)); have n1_ := Aside0.mk (below_step bkB hb); clear HB; have HO170 := n0_; have HB := n1_; clear n0_ n1_; (try clear hb); (try clear hb2); (try clear hk); (try clear hi); (try clear ho0)) | ((with_reducible refine gate_callee (f := 38) rfl ?_); refine goesL_ (some 20) rfl rfl Tryz.func38 (by kernel_rfl) rfl #[.string a1] rfl bkA ?_; (with_reducible refine (Go.Proofs.YtaidmohjnbibiaaGreatDoor.K.num_read.calls kj2 a1 t172 t175 _ A12.out).mono ?_); rintro e w16 ⟨v173, rfl, ho0, hb⟩; refine ⟨_, rfl, ?_⟩; have n0_ := Aside0.mk (Kd.V_below (by (with_reducible repeat (first | apply Kd.V_alloc | apply Kd.V_drewN | apply Kd.V_drew)); exact HO170.out) hb); have n1_ := Aside0.mk (Kd.V_lower (Kd.V_mono (ok' := fun k_ => True) ho0 (fun k_ hk_ => trivial)) (below_size bkB)); have n2_ := Aside0.mk (below_step bkB hb); clear HO170; clear HB; have HO170 := n0_; have HO174 := n1_; have HB := n2_; clear n0_ n1_ n2_; (try clear hb); (try clear hb2); (try clear hk); (try clear hi); (try clear ho0); obtain ⟨Ao17, co17, eo17⟩ := Kd.V_slice HO170.out; subst eo17; obtain ⟨Ao18, co18, eo18⟩ := Kd.V_slice HO174.out; subst eo18) | (go_at_call 61; (with_reducible refine (L.num_Mul_1.calls kj2 _ _ t168 t171 _ _ t172 t175 t176 t179 _ ?side1 ?side2 ?side3 ?side4 A13.out).mono ?_); (case side1 => repeat (first | exact (Kd.V_reads' HO170.out).2.2 | (with_reducible refine Kd.C_alloc ?_ _) | (with_reducible refine Kd.C_drewN ?_ _) | (with_reducible refine Kd.C_drew ?_))); (case side2 => exact (Kd.V_reads' HO170.out).2.1); (case side3 => repeat (first | exact (Kd.V_reads' HO174.out).2.2 | (with_reducible refine Kd.C_alloc ?_ _) | (with_reducible refine Kd.C_drewN ?_ _) | (with_reducible refine Kd.C_drew ?_))); (case side4 => exact (Kd.V_reads' HO174.out).2.1); rintro e w19 ⟨v177, rfl, ho0, hb⟩; have n0_ := Aside0.mk (Kd.V_below (by (with_reducible repeat (first | apply Kd.V_alloc | apply Kd.V_drewN | apply Kd.V_drew)); exact HO170.out) hb); have n1_ := Aside0.mk (Kd.V_below (by (with_reducible repeat (first | apply Kd.V_alloc | apply Kd.V_drewN | apply Kd.V_drew)); exact HO174.out) hb); have n2_ := Aside0.mk (Kd.V_lower (Kd.V_mono (ok' := fun k_ => True) ho0 (fun k_ hk_ => trivial)) (below_size bkB)); have n3_ := Aside0.mk (below_step bkB hb); clear HO170; clear HO174; clear HB; have HO170 := n0_; have HO174 := n1_; have HO178 := n2_; have HB := n3_; clear n0_ n1_ n2_ n3_; (try clear hb); (try clear hb2); (try clear hk); (try clear hi); (try clear ho0); obtain ⟨Ao20, co20, eo20⟩ := Kd.V_slice HO178.out; subst eo20) | ((with_reducible refine gate_callee (f := 83) rfl ?_); refine goesL_ (some 22) rfl rfl Tryz.func83 (by kernel_rfl) rfl #[.agg #[.slice Ao20 t176.length co20, .bool t179]] rfl bkA ?_; (with_reducible refine (num_told.calls kj2 _ _ t176 t179 t180 t181 _ ?side1 ?side2 ?side3 A14.out).mono ?_); (case side1 => repeat (first | exact (Kd.V_reads' HO178.out).2.2 | (with_reducible refine Kd.C_alloc ?_ _) | (with_reducible refine Kd.C_drewN ?_ _) | (with_reducible refine Kd.C_drew ?_))); (case side2 => exact (Kd.V_reads' HO178.out).2.1); (case side3 => exact Hd.GL.below HGL.out bkB); rintro e w21 ⟨rfl, hb⟩; refine ⟨_, rfl, ?_⟩; have n0_ := Aside0.mk (Kd.V_below (by (with_reducible repeat (first | apply Kd.V_alloc | apply Kd.V_drewN | apply Kd.V_drew)); exact HO170.out) hb); have n1_ := Aside0.mk (Kd.V_below (by (with_reducible repeat (first | apply Kd.V_alloc | apply Kd.V_drewN | apply Kd.V_drew)); exact HO174.out) hb); have n2_ := Aside0.mk (Kd.V_below (by (with_reducible repeat (first | apply Kd.V_alloc | apply Kd.V_drewN | apply Kd.V_drew)); exact HO178.out) hb); have n3_ := Aside0.mk (below_step bkB hb); clear HO170; clear HO174; clear HO178; clear HB; have HO170 := n0_; have HO174 := n1_; have HO178 := n2_; have HB := n3_; clear n0_ n1_ n2_ n3_; (try clear hb); (try clear hb2); (try clear hk); (try clear hi)))
        go_ret2
        exact ⟨bkE, bkB⟩
/-! ### num_Add: function 24 -/
def num_Add.f (k : Nat) (a0 : ByteArray) (a1 : ByteArray) : Option (ByteArray × Int) := (num_of_plus.f k a0 a1).bind fun bt182 => (some (bt182.1, bt182.2))
set_option maxHeartbeats 8000000 in
set_option maxRecDepth 100000 in
theorem num_Add.calls (k : Nat) (a0 : ByteArray) (a1 : ByteArray) (r1 : ByteArray) (r2 : Int) (w : World) (hG : Hd.GL w) (h : num_Add.f k a0 a1 = some (r1, r2)) :
    Calls Tryz.prog 24 #[.string a0, .string a1] w fun e w' => e = .returned (.tuple #[.string r1, .int .i64 r2]) ∧ Below w.heap.size w w' := by
  have HGL := Aside0.mk hG
  clear hG
  have HB := Aside0.mk (Below.refl w.heap.size w)
  have H : ((num_of_plus.f k a0 a1).bind fun bt182 => (some (bt182.1, bt182.2))) = some (r1, r2) := h
  clear h
  obtain ⟨⟨t182, t183⟩, A30, H⟩ := Option.bind_eq_some_iff.mp H
  try dsimp only at H
  have A3 := Aside0.mk A30
  clear A30
  simp only [Option.some.injEq, Prod.mk.injEq] at H
  obtain ⟨rfl, rfl⟩ := H
  go_enter Tryz.func24, Tryz.ntmps24
  go_wp2_with (first | ((with_reducible refine gate_callee (f := 59) rfl ?_); refine goesL_ (some 8) rfl rfl Tryz.func59 (by kernel_rfl) rfl #[.string a0, .string a1, .func (.func 37) #[] #[]] rfl bkA ?_; (with_reducible refine (num_of_plus.calls k a0 a1 t182 t183 _ ?side1 A3.out).mono ?_); (case side1 => exact Hd.GL.below HGL.out bkB); rintro e w4 ⟨rfl, hb⟩; refine ⟨_, rfl, ?_⟩; replace HB := bkS hb; clear hb; (try clear hb2); (try clear hk); (try clear hi)))
  go_ret2
  exact ⟨bkE, bkB⟩
/-! ### num_Sub: function 25 -/
def num_Sub.f (k : Nat) (a0 : ByteArray) (a1 : ByteArray) : Option (ByteArray × Int) := (num_of_Sub1.f k a0 a1).bind fun bt184 => (some (bt184.1, bt184.2))
set_option maxHeartbeats 8000000 in
set_option maxRecDepth 100000 in
theorem num_Sub.calls (k : Nat) (a0 : ByteArray) (a1 : ByteArray) (r1 : ByteArray) (r2 : Int) (w : World) (hG : Hd.GL w) (h : num_Sub.f k a0 a1 = some (r1, r2)) :
    Calls Tryz.prog 25 #[.string a0, .string a1] w fun e w' => e = .returned (.tuple #[.string r1, .int .i64 r2]) ∧ Below w.heap.size w w' := by
  have HGL := Aside0.mk hG
  clear hG
  have HB := Aside0.mk (Below.refl w.heap.size w)
  have H : ((num_of_Sub1.f k a0 a1).bind fun bt184 => (some (bt184.1, bt184.2))) = some (r1, r2) := h
  clear h
  obtain ⟨⟨t184, t185⟩, A30, H⟩ := Option.bind_eq_some_iff.mp H
  try dsimp only at H
  have A3 := Aside0.mk A30
  clear A30
  simp only [Option.some.injEq, Prod.mk.injEq] at H
  obtain ⟨rfl, rfl⟩ := H
  go_enter Tryz.func25, Tryz.ntmps25
  go_wp2_with (first | ((with_reducible refine gate_callee (f := 59) rfl ?_); refine goesL_ (some 8) rfl rfl Tryz.func59 (by kernel_rfl) rfl #[.string a0, .string a1, .func (.func 60) #[] #[]] rfl bkA ?_; (with_reducible refine (num_of_Sub1.calls k a0 a1 t184 t185 _ ?side1 A3.out).mono ?_); (case side1 => exact Hd.GL.below HGL.out bkB); rintro e w4 ⟨rfl, hb⟩; refine ⟨_, rfl, ?_⟩; replace HB := bkS hb; clear hb; (try clear hb2); (try clear hk); (try clear hi)))
  go_ret2
  exact ⟨bkE, bkB⟩
/-! ### num_Mul: function 26 -/
def num_Mul.f (k : Nat) (a0 : ByteArray) (a1 : ByteArray) : Option (ByteArray × Int) := (num_of_Mul1.f k a0 a1).bind fun bt186 => (some (bt186.1, bt186.2))
set_option maxHeartbeats 8000000 in
set_option maxRecDepth 100000 in
theorem num_Mul.calls (k : Nat) (a0 : ByteArray) (a1 : ByteArray) (r1 : ByteArray) (r2 : Int) (w : World) (hG : Hd.GL w) (h : num_Mul.f k a0 a1 = some (r1, r2)) :
    Calls Tryz.prog 26 #[.string a0, .string a1] w fun e w' => e = .returned (.tuple #[.string r1, .int .i64 r2]) ∧ Below w.heap.size w w' := by
  have HGL := Aside0.mk hG
  clear hG
  have HB := Aside0.mk (Below.refl w.heap.size w)
  have H : ((num_of_Mul1.f k a0 a1).bind fun bt186 => (some (bt186.1, bt186.2))) = some (r1, r2) := h
  clear h
  obtain ⟨⟨t186, t187⟩, A30, H⟩ := Option.bind_eq_some_iff.mp H
  try dsimp only at H
  have A3 := Aside0.mk A30
  clear A30
  simp only [Option.some.injEq, Prod.mk.injEq] at H
  obtain ⟨rfl, rfl⟩ := H
  go_enter Tryz.func26, Tryz.ntmps26
  go_wp2_with (first | ((with_reducible refine gate_callee (f := 59) rfl ?_); refine goesL_ (some 8) rfl rfl Tryz.func59 (by kernel_rfl) rfl #[.string a0, .string a1, .func (.func 61) #[] #[]] rfl bkA ?_; (with_reducible refine (num_of_Mul1.calls k a0 a1 t186 t187 _ ?side1 A3.out).mono ?_); (case side1 => exact Hd.GL.below HGL.out bkB); rintro e w4 ⟨rfl, hb⟩; refine ⟨_, rfl, ?_⟩; replace HB := bkS hb; clear hb; (try clear hb2); (try clear hk); (try clear hi)))
  go_ret2
  exact ⟨bkE, bkB⟩
/-! ### num_Cmp: function 12 -/
def num_Cmp.j0 : Nat → ByteArray → ByteArray → Bool → Option (Int)
  | 0, _, _, _ => none
  | k + 1, x0, x1, x13 => if x13 = true then (some 0) else ((Go.Proofs.YtaidmohjnbibiaaGreatDoor.K.num_read.f k x0).bind fun bt190 => ((Go.Proofs.YtaidmohjnbibiaaGreatDoor.K.num_read.f k x1).bind fun bt194 => ((Go.Proofs.YtaidmohjnbibiaaGreatDoor.K.num_whole_turned.f bt194.1 bt194.2).bind fun bt198 => ((num_plus.f k bt190.1 bt190.2 bt198.1 bt198.2).bind fun bt202 => (if (bt202.1.length : Int) = 0 then (some 0) else (if bt202.2 = true then (some (-1)) else (some 1)))))))
def num_Cmp.f (k : Nat) (a0 : ByteArray) (a1 : ByteArray) : Option (Int) := (Go.Proofs.YtaidmohjnbibiaaGreatDoor.K.num_May.f a0).bind fun t188 => (if t188 = true then ((Go.Proofs.YtaidmohjnbibiaaGreatDoor.K.num_May.f a1).bind fun t189 => (num_Cmp.j0 k a0 a1 (!t189))) else (num_Cmp.j0 k a0 a1 true))
set_option maxHeartbeats 8000000 in
set_option maxRecDepth 100000 in
theorem num_Cmp.calls (k : Nat) (a0 : ByteArray) (a1 : ByteArray) (r : Int) (w : World) (h : num_Cmp.f k a0 a1 = some r) :
    Calls Tryz.prog 12 #[.string a0, .string a1] w fun e w' => e = .returned (.int .i64 r) ∧ Below w.heap.size w w' := by
  have hu47 := Tryz.underlying47
  have HB := Aside0.mk (Below.refl w.heap.size w)
  have H : ((Go.Proofs.YtaidmohjnbibiaaGreatDoor.K.num_May.f a0).bind fun t188 => (if t188 = true then ((Go.Proofs.YtaidmohjnbibiaaGreatDoor.K.num_May.f a1).bind fun t189 => (num_Cmp.j0 k a0 a1 (!t189))) else (num_Cmp.j0 k a0 a1 true))) = some r := h
  clear h
  have HC3 := Aside0.mk H
  clear H
  go_enter Tryz.func12, Tryz.ntmps12
  go_upto_region 1 with (fail)
  go_cut [13] (fun v13 wc => ∃ (kq : Nat) (x13_2 : Bool), v13 = .bool x13_2 ∧ Aside0 (num_Cmp.j0 kq a0 a1 x13_2 = some r) ∧ Aside0 (kq ≤ k) ∧ Aside0 (Below w.heap.size w wc))
  case first =>
    have H := HC3.out
    clear HC3
    obtain ⟨t188, A40, H⟩ := Option.bind_eq_some_iff.mp H
    try dsimp only at H
    have A4 := Aside0.mk A40
    clear A40
    by_cases c5 : t188 = true
    · subst c5
      rw [if_pos rfl] at H
      obtain ⟨t189, A60, H⟩ := Option.bind_eq_some_iff.mp H
      try dsimp only at H
      have A6 := Aside0.mk A60
      clear A60
      have H' := Aside0.mk H
      clear H
      go_wp2_with (first | ((with_reducible refine gate_callee (f := 10) rfl ?_); refine goesL_ (some 7) rfl rfl Tryz.func10 (by kernel_rfl) rfl #[.string a0] rfl bkA ?_; (with_reducible refine (Go.Proofs.YtaidmohjnbibiaaGreatDoor.K.num_May.calls a0 true _ A4.out).mono ?_); rintro e w7 ⟨rfl, hb⟩; refine ⟨_, rfl, ?_⟩; replace HB := bkS hb; clear hb; (try clear hb2); (try clear hk); (try clear hi)) | (go_at_call 10; (with_reducible refine (Go.Proofs.YtaidmohjnbibiaaGreatDoor.K.num_May.calls a1 t189 _ A6.out).mono ?_); rintro e w8 ⟨rfl, hb⟩; replace HB := bkS hb; clear hb; (try clear hb2); (try clear hk); (try clear hi)))
      go_meet
      case rel => exact ⟨_, (!t189), bkF, H', ⟨by first | omega | exact Nat.le_refl _⟩, ⟨bkB⟩⟩
    · replace c5 := Bool.eq_false_iff.mpr c5
      subst c5
      rw [if_neg Bool.false_ne_true] at H
      have H' := Aside0.mk H
      clear H
      go_wp2_with (first | ((with_reducible refine gate_callee (f := 10) rfl ?_); refine goesL_ (some 7) rfl rfl Tryz.func10 (by kernel_rfl) rfl #[.string a0] rfl bkA ?_; (with_reducible refine (Go.Proofs.YtaidmohjnbibiaaGreatDoor.K.num_May.calls a0 false _ A4.out).mono ?_); rintro e w9 ⟨rfl, hb⟩; refine ⟨_, rfl, ?_⟩; replace HB := bkS hb; clear hb; (try clear hb2); (try clear hk); (try clear hi)))
      go_meet
      case rel => exact ⟨_, (true), bkF, H', ⟨by first | omega | exact Nat.le_refl _⟩, ⟨bkB⟩⟩
  case rest =>
    clear HC3
    try clear c1
    try clear p2
    try clear c5
    obtain ⟨kq, x13_2, rfl, HA, HJ2, HB⟩ := hcut
    cases kq with
    | zero => exact absurd HA.out (by simp [num_Cmp.j0])
    | succ kj2 =>
      have H := HA.out
      clear HA
      simp only [num_Cmp.j0] at H
      by_cases c10 : x13_2 = true
      · subst c10
        rw [if_pos rfl] at H
        obtain rfl := Option.some.inj H
        go_wp2
        go_ret
        exact ⟨bkE, bkB⟩
      · replace c10 := Bool.eq_false_iff.mpr c10
        subst c10
        rw [if_neg Bool.false_ne_true] at H
        obtain ⟨⟨t190, t193⟩, A110, H⟩ := Option.bind_eq_some_iff.mp H
        try dsimp only at H
        have A11 := Aside0.mk A110
        clear A110
        obtain ⟨⟨t194, t197⟩, A120, H⟩ := Option.bind_eq_some_iff.mp H
        try dsimp only at H
        have A12 := Aside0.mk A120
        clear A120
        obtain ⟨⟨t198, t201⟩, A130, H⟩ := Option.bind_eq_some_iff.mp H
        try dsimp only at H
        have A13 := Aside0.mk A130
        clear A130
        obtain ⟨⟨t202, t205⟩, A140, H⟩ := Option.bind_eq_some_iff.mp H
        try dsimp only at H
        have A14 := Aside0.mk A140
        clear A140
        by_cases c15 : (t202.length : Int) = 0
        · rw [if_pos c15] at H
          have c15b0 : ((t202.length : Int) == 0) = true := beq_iff_eq.mpr c15
          have c15b1 : ((t202.length : Int) != 0) = false := bne_eq_false_iff_eq.mpr c15
          clear c15
          obtain rfl := Option.some.inj H
          go_wp2_with (first | ((with_reducible refine gate_callee (f := 38) rfl ?_); refine goesL_ (some 15) rfl rfl Tryz.func38 (by kernel_rfl) rfl #[.string a0] rfl bkA ?_; (with_reducible refine (Go.Proofs.YtaidmohjnbibiaaGreatDoor.K.num_read.calls kj2 a0 t190 t193 _ A11.out).mono ?_); rintro e w16 ⟨v191, rfl, ho0, hb⟩; refine ⟨_, rfl, ?_⟩; have n0_ := Aside0.mk (Kd.V_lower (Kd.V_mono (ok' := fun k_ => True) ho0 (fun k_ hk_ => trivial)) (below_size bkB)); have n1_ := Aside0.mk (below_step bkB hb); clear HB; have HO192 := n0_; have HB := n1_; clear n0_ n1_; (try clear hb); (try clear hb2); (try clear hk); (try clear hi); (try clear ho0)) | ((with_reducible refine gate_callee (f := 38) rfl ?_); refine goesL_ (some 17) rfl rfl Tryz.func38 (by kernel_rfl) rfl #[.string a1] rfl bkA ?_; (with_reducible refine (Go.Proofs.YtaidmohjnbibiaaGreatDoor.K.num_read.calls kj2 a1 t194 t197 _ A12.out).mono ?_); rintro e w17 ⟨v195, rfl, ho0, hb⟩; refine ⟨_, rfl, ?_⟩; have n0_ := Aside0.mk (Kd.V_below (by (with_reducible repeat (first | apply Kd.V_alloc | apply Kd.V_drewN | apply Kd.V_drew)); exact HO192.out) hb); have n1_ := Aside0.mk (Kd.V_lower (Kd.V_mono (ok' := fun k_ => True) ho0 (fun k_ hk_ => trivial)) (below_size bkB)); have n2_ := Aside0.mk (below_step bkB hb); clear HO192; clear HB; have HO192 := n0_; have HO196 := n1_; have HB := n2_; clear n0_ n1_ n2_; (try clear hb); (try clear hb2); (try clear hk); (try clear hi); (try clear ho0); obtain ⟨Ao18, co18, eo18⟩ := Kd.V_slice HO196.out; subst eo18) | ((with_reducible refine gate_callee (f := 39) rfl ?_); refine goesL_ (some 18) rfl rfl Tryz.func39 (by kernel_rfl) rfl #[.agg #[.slice Ao18 t194.length co18, .bool t197]] rfl bkA ?_; (with_reducible refine (Go.Proofs.YtaidmohjnbibiaaGreatDoor.K.num_whole_turned.calls (fun k_ => True) _ _ t194 t197 t198 t201 _ ?side1 A13.out).mono ?_); (case side1 => exact HO196.out); rintro e w19 ⟨v199, rfl, ho0, hb⟩; refine ⟨_, rfl, ?_⟩; have n0_ := Aside0.mk (Kd.V_below (by (with_reducible repeat (first | apply Kd.V_alloc | apply Kd.V_drewN | apply Kd.V_drew)); exact HO192.out) hb); have n1_ := Aside0.mk (Kd.V_below (by (with_reducible repeat (first | apply Kd.V_alloc | apply Kd.V_drewN | apply Kd.V_drew)); exact HO196.out) hb); have n2_ := Aside0.mk (Kd.V_lower (Kd.V_mono (ok' := fun k_ => True) ho0 (fun k_ hk_ => trivial)) (below_size bkB)); have n3_ := Aside0.mk (below_step bkB hb); clear HO192; clear HO196; clear HB; have HO192 := n0_; have HO196 := n1_; have HO200 := n2_; have HB := n3_; clear n0_ n1_ n2_ n3_; (try clear hb); (try clear hb2); (try clear hk); (try clear hi); (try clear ho0); obtain ⟨Ao20, co20, eo20⟩ := Kd.V_slice HO192.out; subst eo20; obtain ⟨Ao21, co21, eo21⟩ := Kd.V_slice HO200.out; subst eo21) | ((with_reducible refine gate_callee (f := 37) rfl ?_); refine goesL_ (some 19) rfl rfl Tryz.func37 (by kernel_rfl) rfl #[.agg #[.slice Ao20 t190.length co20, .bool t193], .agg #[.slice Ao21 t198.length co21, .bool t201]] rfl bkA ?_; (with_reducible refine (num_plus.calls kj2 _ _ t190 t193 _ _ t198 t201 t202 t205 _ ?side1 ?side2 ?side3 ?side4 A14.out).mono ?_); (case side1 => repeat (first | exact (Kd.V_reads' HO192.out).2.2 | (with_reducible refine Kd.C_alloc ?_ _) | (with_reducible refine Kd.C_drewN ?_ _) | (with_reducible refine Kd.C_drew ?_))); (case side2 => exact (Kd.V_reads' HO192.out).2.1); (case side3 => repeat (first | exact (Kd.V_reads' HO200.out).2.2 | (with_reducible refine Kd.C_alloc ?_ _) | (with_reducible refine Kd.C_drewN ?_ _) | (with_reducible refine Kd.C_drew ?_))); (case side4 => exact (Kd.V_reads' HO200.out).2.1); rintro e w22 ⟨v203, rfl, ho0, hb⟩; refine ⟨_, rfl, ?_⟩; have n0_ := Aside0.mk (Kd.V_below (by (with_reducible repeat (first | apply Kd.V_alloc | apply Kd.V_drewN | apply Kd.V_drew)); exact HO192.out) hb); have n1_ := Aside0.mk (Kd.V_below (by (with_reducible repeat (first | apply Kd.V_alloc | apply Kd.V_drewN | apply Kd.V_drew)); exact HO196.out) hb); have n2_ := Aside0.mk (Kd.V_below (by (with_reducible repeat (first | apply Kd.V_alloc | apply Kd.V_drewN | apply Kd.V_drew)); exact HO200.out) hb); have n3_ := Aside0.mk (Kd.V_lower (Kd.V_mono (ok' := fun k_ => True) ho0 (fun k_ hk_ => trivial)) (below_size bkB)); have n4_ := Aside0.mk (below_step bkB hb); clear HO192; clear HO196; clear HO200; clear HB; have HO192 := n0_; have HO196 := n1_; have HO200 := n2_; have HO204 := n3_; have HB := n4_; clear n0_ n1_ n2_ n3_ n4_; (try clear hb); (try clear hb2); (try clear hk); (try clear hi); (try clear ho0)) | ((with_reducible refine gate_dst (N := 5) rfl ?_); refine box_event ?hg (N := 5) ?hd (cs := #[.slice none 0 0, .bool false]) (t := 47) ?hr ?_; (case hd => rfl); (case hg => rfl); (case hr => first | (go_simp; done) | (go_simp; rfl)); intro gb206 hg w23 hbox hb; have n0_ := Aside0.mk (Kd.V_below (Kd.V_elderB (by (with_reducible repeat (first | apply Kd.V_alloc | apply Kd.V_drewN | apply Kd.V_drew)); exact HO192.out) gb206 (Nat.le_of_eq hg.symm)) hb); have n1_ := Aside0.mk (Kd.V_below (Kd.V_elderB (by (with_reducible repeat (first | apply Kd.V_alloc | apply Kd.V_drewN | apply Kd.V_drew)); exact HO196.out) gb206 (Nat.le_of_eq hg.symm)) hb); have n2_ := Aside0.mk (Kd.V_below (Kd.V_elderB (by (with_reducible repeat (first | apply Kd.V_alloc | apply Kd.V_drewN | apply Kd.V_drew)); exact HO200.out) gb206 (Nat.le_of_eq hg.symm)) hb); have n3_ := Aside0.mk (Kd.V_below (Kd.V_elderB (by (with_reducible repeat (first | apply Kd.V_alloc | apply Kd.V_drewN | apply Kd.V_drew)); exact HO204.out) gb206 (Nat.le_of_eq hg.symm)) hb); have n4_ := Aside0.mk (below_step bkB hb); have n5_ := Aside0.mk (hbox); have n6_ := Aside0.mk ((by rw [hg]; exact (below_size bkB) : w.heap.size ≤ gb206)); have n7_ := Aside0.mk ((by rw [hg]; exact (below_size bkB) : w.heap.size ≤ gb206)); clear HO192; clear HO196; clear HO200; clear HO204; clear HB; have HO192 := n0_; have HO196 := n1_; have HO200 := n2_; have HO204 := n3_; have HB := n4_; have BK206 := n5_; have GW206 := n6_; have GE206 := n7_; clear n0_ n1_ n2_ n3_ n4_ n5_ n6_ n7_; clear hb hbox hg; obtain ⟨Ao24, co24, eo24⟩ := Kd.V_slice HO204.out; subst eo24; have hcz25_0 : w23.cell? ⟨gb206, 0, none⟩ = some (.slice none 0 0) := (blk_cell BK206.out 0).trans rfl; have hcz25_1 : w23.cell? ⟨gb206, 1, none⟩ = some (.bool false) := (blk_cell BK206.out 1).trans rfl; have hfz25_0 := blk_frozen BK206.out 0; have hfz25_1 := blk_frozen BK206.out 1))
          go_ret
          exact ⟨bkE, by repeat (first | (with_reducible first | exact HB.out | apply below_alloc | apply pw_below_drewN | apply below_drew1 | refine below_set ?_ GE206.out) | exact HB.out)⟩
        · rw [if_neg c15] at H
          have c15b0 : ((t202.length : Int) == 0) = false := beq_eq_false_iff_ne.mpr c15
          have c15b1 : ((t202.length : Int) != 0) = true := bne_iff_ne.mpr c15
          have c15b2 : ¬ (t202 = []) := fun h_ => c15 (by rw [h_]; rfl)
          by_cases c26 : t205 = true
          · subst c26
            rw [if_pos rfl] at H
            obtain rfl := Option.some.inj H
            go_wp2_with (first | ((with_reducible refine gate_callee (f := 38) rfl ?_); refine goesL_ (some 15) rfl rfl Tryz.func38 (by kernel_rfl) rfl #[.string a0] rfl bkA ?_; (with_reducible refine (Go.Proofs.YtaidmohjnbibiaaGreatDoor.K.num_read.calls kj2 a0 t190 t193 _ A11.out).mono ?_); rintro e w27 ⟨v191, rfl, ho0, hb⟩; refine ⟨_, rfl, ?_⟩; have n0_ := Aside0.mk (Kd.V_lower (Kd.V_mono (ok' := fun k_ => True) ho0 (fun k_ hk_ => trivial)) (below_size bkB)); have n1_ := Aside0.mk (below_step bkB hb); clear HB; have HO192 := n0_; have HB := n1_; clear n0_ n1_; (try clear hb); (try clear hb2); (try clear hk); (try clear hi); (try clear ho0)) | ((with_reducible refine gate_callee (f := 38) rfl ?_); refine goesL_ (some 17) rfl rfl Tryz.func38 (by kernel_rfl) rfl #[.string a1] rfl bkA ?_; (with_reducible refine (Go.Proofs.YtaidmohjnbibiaaGreatDoor.K.num_read.calls kj2 a1 t194 t197 _ A12.out).mono ?_); rintro e w28 ⟨v195, rfl, ho0, hb⟩; refine ⟨_, rfl, ?_⟩; have n0_ := Aside0.mk (Kd.V_below (by (with_reducible repeat (first | apply Kd.V_alloc | apply Kd.V_drewN | apply Kd.V_drew)); exact HO192.out) hb); have n1_ := Aside0.mk (Kd.V_lower (Kd.V_mono (ok' := fun k_ => True) ho0 (fun k_ hk_ => trivial)) (below_size bkB)); have n2_ := Aside0.mk (below_step bkB hb); clear HO192; clear HB; have HO192 := n0_; have HO196 := n1_; have HB := n2_; clear n0_ n1_ n2_; (try clear hb); (try clear hb2); (try clear hk); (try clear hi); (try clear ho0); obtain ⟨Ao29, co29, eo29⟩ := Kd.V_slice HO196.out; subst eo29) | ((with_reducible refine gate_callee (f := 39) rfl ?_); refine goesL_ (some 18) rfl rfl Tryz.func39 (by kernel_rfl) rfl #[.agg #[.slice Ao29 t194.length co29, .bool t197]] rfl bkA ?_; (with_reducible refine (Go.Proofs.YtaidmohjnbibiaaGreatDoor.K.num_whole_turned.calls (fun k_ => True) _ _ t194 t197 t198 t201 _ ?side1 A13.out).mono ?_); (case side1 => exact HO196.out); rintro e w30 ⟨v199, rfl, ho0, hb⟩; refine ⟨_, rfl, ?_⟩; have n0_ := Aside0.mk (Kd.V_below (by (with_reducible repeat (first | apply Kd.V_alloc | apply Kd.V_drewN | apply Kd.V_drew)); exact HO192.out) hb); have n1_ := Aside0.mk (Kd.V_below (by (with_reducible repeat (first | apply Kd.V_alloc | apply Kd.V_drewN | apply Kd.V_drew)); exact HO196.out) hb); have n2_ := Aside0.mk (Kd.V_lower (Kd.V_mono (ok' := fun k_ => True) ho0 (fun k_ hk_ => trivial)) (below_size bkB)); have n3_ := Aside0.mk (below_step bkB hb); clear HO192; clear HO196; clear HB; have HO192 := n0_; have HO196 := n1_; have HO200 := n2_; have HB := n3_; clear n0_ n1_ n2_ n3_; (try clear hb); (try clear hb2); (try clear hk); (try clear hi); (try clear ho0); obtain ⟨Ao31, co31, eo31⟩ := Kd.V_slice HO192.out; subst eo31; obtain ⟨Ao32, co32, eo32⟩ := Kd.V_slice HO200.out; subst eo32) | ((with_reducible refine gate_callee (f := 37) rfl ?_); refine goesL_ (some 19) rfl rfl Tryz.func37 (by kernel_rfl) rfl #[.agg #[.slice Ao31 t190.length co31, .bool t193], .agg #[.slice Ao32 t198.length co32, .bool t201]] rfl bkA ?_; (with_reducible refine (num_plus.calls kj2 _ _ t190 t193 _ _ t198 t201 t202 true _ ?side1 ?side2 ?side3 ?side4 A14.out).mono ?_); (case side1 => repeat (first | exact (Kd.V_reads' HO192.out).2.2 | (with_reducible refine Kd.C_alloc ?_ _) | (with_reducible refine Kd.C_drewN ?_ _) | (with_reducible refine Kd.C_drew ?_))); (case side2 => exact (Kd.V_reads' HO192.out).2.1); (case side3 => repeat (first | exact (Kd.V_reads' HO200.out).2.2 | (with_reducible refine Kd.C_alloc ?_ _) | (with_reducible refine Kd.C_drewN ?_ _) | (with_reducible refine Kd.C_drew ?_))); (case side4 => exact (Kd.V_reads' HO200.out).2.1); rintro e w33 ⟨v203, rfl, ho0, hb⟩; refine ⟨_, rfl, ?_⟩; have n0_ := Aside0.mk (Kd.V_below (by (with_reducible repeat (first | apply Kd.V_alloc | apply Kd.V_drewN | apply Kd.V_drew)); exact HO192.out) hb); have n1_ := Aside0.mk (Kd.V_below (by (with_reducible repeat (first | apply Kd.V_alloc | apply Kd.V_drewN | apply Kd.V_drew)); exact HO196.out) hb); have n2_ := Aside0.mk (Kd.V_below (by (with_reducible repeat (first | apply Kd.V_alloc | apply Kd.V_drewN | apply Kd.V_drew)); exact HO200.out) hb); have n3_ := Aside0.mk (Kd.V_lower (Kd.V_mono (ok' := fun k_ => True) ho0 (fun k_ hk_ => trivial)) (below_size bkB)); have n4_ := Aside0.mk (below_step bkB hb); clear HO192; clear HO196; clear HO200; clear HB; have HO192 := n0_; have HO196 := n1_; have HO200 := n2_; have HO204 := n3_; have HB := n4_; clear n0_ n1_ n2_ n3_ n4_; (try clear hb); (try clear hb2); (try clear hk); (try clear hi); (try clear ho0)) | ((with_reducible refine gate_dst (N := 5) rfl ?_); refine box_event ?hg (N := 5) ?hd (cs := #[.slice none 0 0, .bool false]) (t := 47) ?hr ?_; (case hd => rfl); (case hg => rfl); (case hr => first | (go_simp; done) | (go_simp; rfl)); intro gb206 hg w34 hbox hb; have n0_ := Aside0.mk (Kd.V_below (Kd.V_elderB (by (with_reducible repeat (first | apply Kd.V_alloc | apply Kd.V_drewN | apply Kd.V_drew)); exact HO192.out) gb206 (Nat.le_of_eq hg.symm)) hb); have n1_ := Aside0.mk (Kd.V_below (Kd.V_elderB (by (with_reducible repeat (first | apply Kd.V_alloc | apply Kd.V_drewN | apply Kd.V_drew)); exact HO196.out) gb206 (Nat.le_of_eq hg.symm)) hb); have n2_ := Aside0.mk (Kd.V_below (Kd.V_elderB (by (with_reducible repeat (first | apply Kd.V_alloc | apply Kd.V_drewN | apply Kd.V_drew)); exact HO200.out) gb206 (Nat.le_of_eq hg.symm)) hb); have n3_ := Aside0.mk (Kd.V_below (Kd.V_elderB (by (with_reducible repeat (first | apply Kd.V_alloc | apply Kd.V_drewN | apply Kd.V_drew)); exact HO204.out) gb206 (Nat.le_of_eq hg.symm)) hb); have n4_ := Aside0.mk (below_step bkB hb); have n5_ := Aside0.mk (hbox); have n6_ := Aside0.mk ((by rw [hg]; exact (below_size bkB) : w.heap.size ≤ gb206)); have n7_ := Aside0.mk ((by rw [hg]; exact (below_size bkB) : w.heap.size ≤ gb206)); clear HO192; clear HO196; clear HO200; clear HO204; clear HB; have HO192 := n0_; have HO196 := n1_; have HO200 := n2_; have HO204 := n3_; have HB := n4_; have BK206 := n5_; have GW206 := n6_; have GE206 := n7_; clear n0_ n1_ n2_ n3_ n4_ n5_ n6_ n7_; clear hb hbox hg; obtain ⟨Ao35, co35, eo35⟩ := Kd.V_slice HO204.out; subst eo35; have hcz36_0 : w34.cell? ⟨gb206, 0, none⟩ = some (.slice none 0 0) := (blk_cell BK206.out 0).trans rfl; have hcz36_1 : w34.cell? ⟨gb206, 1, none⟩ = some (.bool false) := (blk_cell BK206.out 1).trans rfl; have hfz36_0 := blk_frozen BK206.out 0; have hfz36_1 := blk_frozen BK206.out 1))
            go_ret
            exact ⟨bkE, by repeat (first | (with_reducible first | exact HB.out | apply below_alloc | apply pw_below_drewN | apply below_drew1 | refine below_set ?_ GE206.out) | exact HB.out)⟩
          · replace c26 := Bool.eq_false_iff.mpr c26
            subst c26
            rw [if_neg Bool.false_ne_true] at H
            obtain rfl := Option.some.inj H
            go_wp2_with (first | ((with_reducible refine gate_callee (f := 38) rfl ?_); refine goesL_ (some 15) rfl rfl Tryz.func38 (by kernel_rfl) rfl #[.string a0] rfl bkA ?_; (with_reducible refine (Go.Proofs.YtaidmohjnbibiaaGreatDoor.K.num_read.calls kj2 a0 t190 t193 _ A11.out).mono ?_); rintro e w37 ⟨v191, rfl, ho0, hb⟩; refine ⟨_, rfl, ?_⟩; have n0_ := Aside0.mk (Kd.V_lower (Kd.V_mono (ok' := fun k_ => True) ho0 (fun k_ hk_ => trivial)) (below_size bkB)); have n1_ := Aside0.mk (below_step bkB hb); clear HB; have HO192 := n0_; have HB := n1_; clear n0_ n1_; (try clear hb); (try clear hb2); (try clear hk); (try clear hi); (try clear ho0)) | ((with_reducible refine gate_callee (f := 38) rfl ?_); refine goesL_ (some 17) rfl rfl Tryz.func38 (by kernel_rfl) rfl #[.string a1] rfl bkA ?_; (with_reducible refine (Go.Proofs.YtaidmohjnbibiaaGreatDoor.K.num_read.calls kj2 a1 t194 t197 _ A12.out).mono ?_); rintro e w38 ⟨v195, rfl, ho0, hb⟩; refine ⟨_, rfl, ?_⟩; have n0_ := Aside0.mk (Kd.V_below (by (with_reducible repeat (first | apply Kd.V_alloc | apply Kd.V_drewN | apply Kd.V_drew)); exact HO192.out) hb); have n1_ := Aside0.mk (Kd.V_lower (Kd.V_mono (ok' := fun k_ => True) ho0 (fun k_ hk_ => trivial)) (below_size bkB)); have n2_ := Aside0.mk (below_step bkB hb); clear HO192; clear HB; have HO192 := n0_; have HO196 := n1_; have HB := n2_; clear n0_ n1_ n2_; (try clear hb); (try clear hb2); (try clear hk); (try clear hi); (try clear ho0); obtain ⟨Ao39, co39, eo39⟩ := Kd.V_slice HO196.out; subst eo39) | ((with_reducible refine gate_callee (f := 39) rfl ?_); refine goesL_ (some 18) rfl rfl Tryz.func39 (by kernel_rfl) rfl #[.agg #[.slice Ao39 t194.length co39, .bool t197]] rfl bkA ?_; (with_reducible refine (Go.Proofs.YtaidmohjnbibiaaGreatDoor.K.num_whole_turned.calls (fun k_ => True) _ _ t194 t197 t198 t201 _ ?side1 A13.out).mono ?_); (case side1 => exact HO196.out); rintro e w40 ⟨v199, rfl, ho0, hb⟩; refine ⟨_, rfl, ?_⟩; have n0_ := Aside0.mk (Kd.V_below (by (with_reducible repeat (first | apply Kd.V_alloc | apply Kd.V_drewN | apply Kd.V_drew)); exact HO192.out) hb); have n1_ := Aside0.mk (Kd.V_below (by (with_reducible repeat (first | apply Kd.V_alloc | apply Kd.V_drewN | apply Kd.V_drew)); exact HO196.out) hb); have n2_ := Aside0.mk (Kd.V_lower (Kd.V_mono (ok' := fun k_ => True) ho0 (fun k_ hk_ => trivial)) (below_size bkB)); have n3_ := Aside0.mk (below_step bkB hb); clear HO192; clear HO196; clear HB; have HO192 := n0_; have HO196 := n1_; have HO200 := n2_; have HB := n3_; clear n0_ n1_ n2_ n3_; (try clear hb); (try clear hb2); (try clear hk); (try clear hi); (try clear ho0); obtain ⟨Ao41, co41, eo41⟩ := Kd.V_slice HO192.out; subst eo41; obtain ⟨Ao42, co42, eo42⟩ := Kd.V_slice HO200.out; subst eo42) | ((with_reducible refine gate_callee (f := 37) rfl ?_); refine goesL_ (some 19) rfl rfl Tryz.func37 (by kernel_rfl) rfl #[.agg #[.slice Ao41 t190.length co41, .bool t193], .agg #[.slice Ao42 t198.length co42, .bool t201]] rfl bkA ?_; (with_reducible refine (num_plus.calls kj2 _ _ t190 t193 _ _ t198 t201 t202 false _ ?side1 ?side2 ?side3 ?side4 A14.out).mono ?_); (case side1 => repeat (first | exact (Kd.V_reads' HO192.out).2.2 | (with_reducible refine Kd.C_alloc ?_ _) | (with_reducible refine Kd.C_drewN ?_ _) | (with_reducible refine Kd.C_drew ?_))); (case side2 => exact (Kd.V_reads' HO192.out).2.1); (case side3 => repeat (first | exact (Kd.V_reads' HO200.out).2.2 | (with_reducible refine Kd.C_alloc ?_ _) | (with_reducible refine Kd.C_drewN ?_ _) | (with_reducible refine Kd.C_drew ?_))); (case side4 => exact (Kd.V_reads' HO200.out).2.1); rintro e w43 ⟨v203, rfl, ho0, hb⟩; refine ⟨_, rfl, ?_⟩; have n0_ := Aside0.mk (Kd.V_below (by (with_reducible repeat (first | apply Kd.V_alloc | apply Kd.V_drewN | apply Kd.V_drew)); exact HO192.out) hb); have n1_ := Aside0.mk (Kd.V_below (by (with_reducible repeat (first | apply Kd.V_alloc | apply Kd.V_drewN | apply Kd.V_drew)); exact HO196.out) hb); have n2_ := Aside0.mk (Kd.V_below (by (with_reducible repeat (first | apply Kd.V_alloc | apply Kd.V_drewN | apply Kd.V_drew)); exact HO200.out) hb); have n3_ := Aside0.mk (Kd.V_lower (Kd.V_mono (ok' := fun k_ => True) ho0 (fun k_ hk_ => trivial)) (below_size bkB)); have n4_ := Aside0.mk (below_step bkB hb); clear HO192; clear HO196; clear HO200; clear HB; have HO192 := n0_; have HO196 := n1_; have HO200 := n2_; have HO204 := n3_; have HB := n4_; clear n0_ n1_ n2_ n3_ n4_; (try clear hb); (try clear hb2); (try clear hk); (try clear hi); (try clear ho0)) | ((with_reducible refine gate_dst (N := 5) rfl ?_); refine box_event ?hg (N := 5) ?hd (cs := #[.slice none 0 0, .bool false]) (t := 47) ?hr ?_; (case hd => rfl); (case hg => rfl); (case hr => first | (go_simp; done) | (go_simp; rfl)); intro gb206 hg w44 hbox hb; have n0_ := Aside0.mk (Kd.V_below (Kd.V_elderB (by (with_reducible repeat (first | apply Kd.V_alloc | apply Kd.V_drewN | apply Kd.V_drew)); exact HO192.out) gb206 (Nat.le_of_eq hg.symm)) hb); have n1_ := Aside0.mk (Kd.V_below (Kd.V_elderB (by (with_reducible repeat (first | apply Kd.V_alloc | apply Kd.V_drewN | apply Kd.V_drew)); exact HO196.out) gb206 (Nat.le_of_eq hg.symm)) hb); have n2_ := Aside0.mk (Kd.V_below (Kd.V_elderB (by (with_reducible repeat (first | apply Kd.V_alloc | apply Kd.V_drewN | apply Kd.V_drew)); exact HO200.out) gb206 (Nat.le_of_eq hg.symm)) hb); have n3_ := Aside0.mk (Kd.V_below (Kd.V_elderB (by (with_reducible repeat (first | apply Kd.V_alloc | apply Kd.V_drewN | apply Kd.V_drew)); exact HO204.out) gb206 (Nat.le_of_eq hg.symm)) hb); have n4_ := Aside0.mk (below_step bkB hb); have n5_ := Aside0.mk (hbox); have n6_ := Aside0.mk ((by rw [hg]; exact (below_size bkB) : w.heap.size ≤ gb206)); have n7_ := Aside0.mk ((by rw [hg]; exact (below_size bkB) : w.heap.size ≤ gb206)); clear HO192; clear HO196; clear HO200; clear HO204; clear HB; have HO192 := n0_; have HO196 := n1_; have HO200 := n2_; have HO204 := n3_; have HB := n4_; have BK206 := n5_; have GW206 := n6_; have GE206 := n7_; clear n0_ n1_ n2_ n3_ n4_ n5_ n6_ n7_; clear hb hbox hg; obtain ⟨Ao45, co45, eo45⟩ := Kd.V_slice HO204.out; subst eo45; have hcz46_0 : w44.cell? ⟨gb206, 0, none⟩ = some (.slice none 0 0) := (blk_cell BK206.out 0).trans rfl; have hcz46_1 : w44.cell? ⟨gb206, 1, none⟩ = some (.bool false) := (blk_cell BK206.out 1).trans rfl; have hfz46_0 := blk_frozen BK206.out 0; have hfz46_1 := blk_frozen BK206.out 1))
            go_ret
            exact ⟨bkE, by repeat (first | (with_reducible first | exact HB.out | apply below_alloc | apply pw_below_drewN | apply below_drew1 | refine below_set ?_ GE206.out) | exact HB.out)⟩
end Go.Proofs.YtaidmohjnbibiaaGreatDoor.L
end
