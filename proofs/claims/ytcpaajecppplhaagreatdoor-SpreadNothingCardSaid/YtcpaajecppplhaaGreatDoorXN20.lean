/- What the law leans on, part 21: declarations of several texts of ours, in their order. -/
import Derived.Test.YtcpaajecppplhaaGreatDoorXN19
import Derived.Test.YtcpaajecppplhaaGreatDoorXN16
import Derived.Test.YtcpaajecppplhaaGreatDoorXN17
import Derived.RangeFuncNested
import Derived.RangeFuncBound
import Derived.RangeFuncCalls
import Derived.RangeFuncLeaves
import Derived.Shelf.Abstract
import Derived.Shelf.RegionOpen
import Derived.OwnWalkIn
import Derived.TacticsInMore
import Derived.LoopNIn
import Derived.LoopIn
import Derived.Test.YtcpaajecppplhaaGreatDoorXN5
section
/- num.compare: what it tells, at any two sizes. -/
namespace Go.Proofs.YtcpaajecppplhaaGreatDoor.Hd
open Go.RowKit Go.Proofs.YtcpaajecppplhaaGreatDoorW.PrintWords Go.Proofs.YtcpaajecppplhaaGreatDoorW.PrintLast Go.Proofs.YtcpaajecppplhaaGreatDoorW.PrintMore Go.Proofs.YtcpaajecppplhaaGreatDoor.B Go.Shelf
attribute [local go_sem] Oper.semAt_some
set_option linter.unusedVariables false
set_option linter.unusedSimpArgs false
def cmpI (x y : Int) : Int := if x < y then -1 else if x > y then 1 else 0
theorem cmpI_int (x y : Int) : K.cmp_Compare_int.f x y = some (cmpI x y) := by
  unfold K.cmp_Compare_int.f K.cmp_isNaN_int.f cmpI
  simp only [Option.bind_some, bne_self_eq_false, Bool.false_eq_true, if_false]
  split
  · rfl
  · split <;> rfl
theorem cmpI_u64 (x y : Int) : K.cmp_Compare_uint64.f x y = some (cmpI x y) := by
  unfold K.cmp_Compare_uint64.f K.cmp_isNaN_uint64.f cmpI
  simp only [Option.bind_some, bne_self_eq_false, Bool.false_eq_true, if_false]
  split
  · rfl
  · split <;> rfl
/-- the first parts from the end that are apart, among the first n -/
def cmpTop (a b : List Int) : Nat → Int
  | 0 => 0
  | n + 1 => if cmpI (a.getD n 0) (b.getD n 0) = 0 then cmpTop a b n else cmpI (a.getD n 0) (b.getD n 0)
def compare.f (l0 l1 : List Int) : Option Int := some (if cmpI (l0.length : Int) (l1.length : Int) = 0 then cmpTop l0 l1 l0.length else cmpI (l0.length : Int) (l1.length : Int))
theorem cmpTop_eq (a b : List Int) : ∀ (n k : Nat), k ≤ n → (∀ j, n - k ≤ j → j < n → cmpI (a.getD j 0) (b.getD j 0) = 0) → cmpTop a b n = cmpTop a b (n - k)
  | n, 0, _, _ => by rw [Nat.sub_zero]
  | 0, k + 1, h, _ => by omega
  | n + 1, k + 1, h, hj => by
    have e := cmpTop_eq a b n k (by omega) (fun j h1 h2 => hj j (by omega) (by omega))
    rw [show n + 1 - (k + 1) = n - k by omega, ← e]
    conv => lhs; unfold cmpTop
    rw [if_pos (hj n (by omega) (by omega))]
theorem bk_mem (n k : Nat) (hk : k ≤ n) (j : Nat) (h1 : n - k ≤ j) (h2 : j < n) : (⟨j, h2⟩ : Fin n) ∈ bk n k := by
  induction k with
  | zero => omega
  | succ k ih =>
    rw [bk_succ n k (by omega)]
    rcases (by omega : n - k ≤ j ∨ j = n - 1 - k) with h | h
    · exact List.mem_append_left _ (ih (by omega) h)
    · subst h
      exact List.mem_append_right _ (by simp)
theorem results_cell1 {fn : Func} {p : Tmp} (h : fn.results = #[.cell p 3]) (tmps : Array Value) (w : World) (g : Nat) (v : Value) (hp : tmps.getD p undef = .pointer (some ⟨g, 0, none⟩)) (hc : w.cell? ⟨g, 0, none⟩ = some v) : (results fn tmps).run Tryz.prog w = .ok v w := by
  have hp' : tmps[p]?.getD undef = .pointer (some ⟨g, 0, none⟩) := by simpa using hp
  have u := Tryz.underlying3
  have a := Tryz.isAgg3
  simp [results, h, hp', asAddr, go_sem, hc, u, a]
/-- where the walk stopped: at the last one looked at -/
def Stopped (l0 l1 : List Int) (pre : List (Fin l0.length)) (v : Int) : Prop := ∃ p x, pre = p ++ [x] ∧ (∀ y ∈ p, cmpI (l0.getD y.1 0) (l1.getD y.1 0) = 0) ∧ v = cmpI (l0.getD x.1 0) (l1.getD x.1 0) ∧ v ≠ 0
theorem stopped_val (l0 l1 : List Int) (k : Nat) (hk : k ≤ l0.length) (v : Int) (h : Stopped l0 l1 (bk l0.length k) v) : cmpTop l0 l1 l0.length = v := by
  obtain ⟨p, x, e, hp, hv, hn⟩ := h
  cases k with
  | zero => rw [bk_zero] at e; simp at e
  | succ k =>
    rw [bk_succ _ _ (by omega)] at e
    have e1 := List.append_inj' e rfl
    obtain ⟨e2, e3⟩ := e1
    simp only [List.cons.injEq, and_true] at e3
    subst e2
    have hx1 : x.1 = l0.length - 1 - k := by rw [← e3]
    rw [cmpTop_eq l0 l1 l0.length k (by omega) (fun j h1 h2 => hp ⟨j, h2⟩ (bk_mem _ k (by omega) j h1 h2))]
    obtain ⟨m, hm⟩ : ∃ m, l0.length - k = m + 1 := ⟨l0.length - k - 1, by omega⟩
    rw [hm]
    have hx : x.1 = m := by omega
    rw [hx] at hv
    unfold cmpTop
    rw [if_neg (by rw [← hv]; exact hn), hv]
theorem done_val (l0 l1 : List Int) (h : ∀ y ∈ bk l0.length l0.length, cmpI (l0.getD y.1 0) (l1.getD y.1 0) = 0) : cmpTop l0 l1 l0.length = 0 := by
  rw [cmpTop_eq l0 l1 l0.length l0.length (Nat.le_refl _) (fun j h1 h2 => h ⟨j, h2⟩ (bk_mem _ _ (Nat.le_refl _) j h1 h2)), Nat.sub_self]
  rfl
set_option maxHeartbeats 1000000 in
theorem compare.apart (A0 A1 : Option Addr) (c0 c1 : Nat) (l0 l1 : List Int) (w : World) (h : cmpI (l0.length : Int) (l1.length : Int) ≠ 0) :
    Calls Tryz.prog 195 #[.slice A0 l0.length c0, .slice A1 l1.length c1] w fun e w' => e = .returned (.int .i64 (cmpI (l0.length : Int) (l1.length : Int))) ∧ Below w.heap.size w w' := by
  obtain ⟨c, hc⟩ : ∃ c, c = cmpI (l0.length : Int) (l1.length : Int) := ⟨_, rfl⟩
  have HC : ∀ W, Calls Tryz.prog 223 #[.int .i64 (l0.length : Int), .int .i64 (l1.length : Int)] W fun e w' => e = .returned (.int .i64 c) ∧ Drawn0 W w' := fun W => K.cmp_Compare_int.calls _ _ c W (by rw [hc]; exact cmpI_int _ _)
  rw [← hc] at h ⊢
  have h1 : (c != 0) = true := bne_iff_ne.mpr h
  clear h hc
  go_enter Tryz.func195, Tryz.ntmps195
  go_wp2_with (go_at_call 223; refine (HC _).mono ?_; rintro e w' ⟨rfl, ⟨nd, rfl⟩⟩)
  obtain ⟨W1, hW1⟩ : ∃ W1, W1 = ((((w.alloc (.cells #[.slice A0 l0.length c0] 159)).alloc (.cells #[.slice A1 l1.length c1] 159)).alloc (.cells #[.int .i64 0] 3)).drewN nd : World) := ⟨_, rfl⟩
  have hb : Boxed W1 (w.heap.size + 1 + 1) 3 (.int .i64 0) := by
    rw [hW1]
    have e := Boxed.new ((w.alloc (.cells #[.slice A0 l0.length c0] 159)).alloc (.cells #[.slice A1 l1.length c1] 159)) 3 (.int .i64 0)
    rw [show ((w.alloc (.cells #[.slice A0 l0.length c0] 159)).alloc (.cells #[.slice A1 l1.length c1] 159)).heap.size = w.heap.size + 1 + 1 from by simp] at e
    exact e
  have hB : Below w.heap.size w W1 := by
    rw [hW1]
    exact pw_below_drewN ((((Below.refl _ w).alloc (Nat.le_refl _) _).alloc (by simp) _).alloc (by simp; omega) _) nd
  rw [← hW1]
  refine bodyPost_ret (results_cell1 rfl _ _ (w.heap.size + 1 + 1) (.int .i64 c) rfl (hb.set _).cell) rfl ?_
  exact ⟨rfl, hB.setCell (p := ⟨w.heap.size + 1 + 1, 0, none⟩) (by simp; omega) _⟩
set_option maxHeartbeats 4000000 in
set_option maxRecDepth 100000 in
theorem compare.same (A0 A1 : Option Addr) (c0 c1 : Nat) (l0 l1 : List Int) (w : World) (hr0 : Kd.C (Kd.int .u64) w A0 l0.length l0) (hr1 : Kd.C (Kd.int .u64) w A1 l1.length l1) (h : cmpI (l0.length : Int) (l1.length : Int) = 0) :
    Calls Tryz.prog 195 #[.slice A0 l0.length c0, .slice A1 l1.length c1] w fun e w' => e = .returned (.int .i64 (cmpTop l0 l1 l0.length)) ∧ Below w.heap.size w w' := by
  have HR0 := Aside0.mk hr0
  have HR1 := Aside0.mk hr1
  clear hr0 hr1
  have HC : ∀ W, Calls Tryz.prog 223 #[.int .i64 (l0.length : Int), .int .i64 (l1.length : Int)] W fun e w' => e = .returned (.int .i64 0) ∧ Drawn0 W w' := fun W => K.cmp_Compare_int.calls _ _ 0 W (by rw [← h]; exact cmpI_int _ _)
  have HL := Aside0.mk (show l1.length = l0.length by
    unfold cmpI at h
    split at h
    · omega
    · split at h <;> omega)
  clear h
  refine (callsIn_wide (n := 6)).1 ?_
  have hro : Fence.wide.round = none := rfl
  refine callsIn_of_wp_marks Tryz.func195 rfl trivial ?_ hro
  simp only [Tryz.ntmps195, List.size_toArray, List.length_cons, List.length_nil, Nat.reduceAdd, Nat.reduceSub, Array.replicate_succ, Array.replicate_zero, List.push_toArray, List.append_toArray, List.nil_append, List.cons_append]
  gi_wp2_with (first
    | (refine ⟨trivial, ?_⟩; gi_at_call 223; refine (callsIn_wide.2 (HC _)).mono ?_; rintro e w' ⟨rfl, ⟨nd, rfl⟩⟩)
    | (refine ⟨trivial, ?_⟩; gi_at_call 220; refine (back_in Fence.wide _ trivial rfl _ _ _ _).mono ?_; rintro e w' ⟨rfl, rfl⟩))
  obtain ⟨W0, hW0⟩ : ∃ W0, W0 = (((((w.alloc (.cells #[.slice A0 l0.length c0] 159)).alloc (.cells #[.slice A1 l1.length c1] 159)).alloc (.cells #[.int .i64 0] 3)).drewN nd).alloc (.cells #[.slice A0 l0.length c0] 159) : World) := ⟨_, rfl⟩
  have hsz : W0.heap.size = w.heap.size + 4 := by rw [hW0]; simp
  have hB0 : Below w.heap.size w W0 := by
    rw [hW0]
    exact (pw_below_drewN ((((Below.refl _ w).alloc (Nat.le_refl _) _).alloc (by simp) _).alloc (by simp; omega) _) nd).alloc (by simp; omega) _
  have b0 : Boxed W0 w.heap.size 159 (.slice A0 l0.length c0) := by
    rw [hW0]
    exact (((Boxed.new w 159 (.slice A0 l0.length c0)).alloc _).alloc _).alloc _
  have b1 : Boxed W0 (w.heap.size + 1) 159 (.slice A1 l1.length c1) := by
    rw [hW0]
    have e := Boxed.new (w.alloc (.cells #[.slice A0 l0.length c0] 159)) 159 (.slice A1 l1.length c1)
    rw [show (w.alloc (.cells #[.slice A0 l0.length c0] 159)).heap.size = w.heap.size + 1 from by simp] at e
    exact (e.alloc _).alloc _
  have b2 : Boxed W0 (w.heap.size + 1 + 1) 3 (.int .i64 0) := by
    rw [hW0]
    have e := Boxed.new ((w.alloc (.cells #[.slice A0 l0.length c0] 159)).alloc (.cells #[.slice A1 l1.length c1] 159)) 3 (.int .i64 0)
    rw [show ((w.alloc (.cells #[.slice A0 l0.length c0] 159)).alloc (.cells #[.slice A1 l1.length c1] 159)).heap.size = w.heap.size + 1 + 1 from by simp] at e
    exact e.alloc _
  have b3 : Boxed W0 (w.heap.size + 1 + 1 + 1) 159 (.slice A0 l0.length c0) := by
    rw [hW0]
    have e := Boxed.new ((((w.alloc (.cells #[.slice A0 l0.length c0] 159)).alloc (.cells #[.slice A1 l1.length c1] 159)).alloc (.cells #[.int .i64 0] 3)).drewN nd) 159 (.slice A0 l0.length c0)
    rw [show ((((w.alloc (.cells #[.slice A0 l0.length c0] 159)).alloc (.cells #[.slice A1 l1.length c1] 159)).alloc (.cells #[.int .i64 0] 3)).drewN nd).heap.size = w.heap.size + 1 + 1 + 1 from by simp] at e
    exact e
  rw [← hW0]
  clear hW0
  refine wpIn_rangeFunc_ownG hro (by omega) (gf := 244) (lb := #[.pointer (some ⟨w.heap.size + 1 + 1 + 1, 0, none⟩)]) rfl trivial (enters_of Tryz.func244 (by kernel_rfl) rfl)
    (back_stops Fence.wide 5 trivial hro (by omega) (w.heap.size + 1 + 1 + 1) w.heap.size A0 c0 l0 w W0 rfl HR0.out hB0 b3) Kb.t (Kb.b (by omega) (by omega)) (Below.refl _ _) (fun _ => rfl)
    (fun pre W => ((Boxed W w.heap.size 159 (.slice A0 l0.length c0) ∧ Boxed W (w.heap.size + 1) 159 (.slice A1 l1.length c1) ∧ Boxed W (w.heap.size + 1 + 1) 3 (.int .i64 0)) ∧ Below w.heap.size w W) ∧ ∀ y ∈ pre, cmpI (l0.getD y.1 0) (l1.getD y.1 0) = 0)
    (fun c pre W => (∃ v, c = .ret ∧ Boxed W (w.heap.size + 1 + 1) 3 (.int .i64 v) ∧ Stopped l0 l1 pre v) ∧ Below w.heap.size w W)
    ?hI ?hIx ⟨⟨⟨b0, b1, b2⟩, hB0⟩, fun y h => by cases h⟩
    (fun x => { tmps := #[.slice A0 l0.length c0, .slice A1 l1.length c1, .pointer (some ⟨w.heap.size, 0, none⟩), .pointer (some ⟨w.heap.size + 1, 0, none⟩), .pointer (some ⟨w.heap.size + 1 + 1, 0, none⟩), .int .i64 0, (.int .i64 ((x.1 : Nat) : Int)), undef, .slice A0 l0.length c0, .int .i64 (l0.length : Int), .slice A1 l1.length c1, .int .i64 (l1.length : Int), .int .i64 0, .int .i64 0, .bool false, undef, .slice A0 l0.length c0, .func (.func 244) #[] #[.pointer (some ⟨w.heap.size + 1 + 1 + 1, 0, none⟩)], (.int .i64 ((x.1 : Nat) : Int)), (.int .u64 (l0.getD x.1 0)), undef, undef, undef, undef, undef, undef, undef, undef, undef, undef, undef, undef], defers := [] }) ?assign ?body ?done ?stop
  case hI =>
    intro s W W' row hs hg hr
    exact ⟨⟨⟨boxed_own _ _ (fun _ : Unit => _) () W W' row hs.1.1.1 hg (fun r e => (hr r e).2), boxed_own _ _ (fun _ : Unit => _) () W W' row hs.1.1.2.1 hg (fun r e => (hr r e).2), boxed_own _ _ (fun _ : Unit => _) () W W' row hs.1.1.2.2 hg (fun r e => (hr r e).2)⟩, ownFrom_below (Nat.le_refl _) (by omega) () W W' row hs.1.2 hg hr⟩, hs.2⟩
  case hIx =>
    intro c s W W' row hs hg hr
    obtain ⟨⟨v, e, hb, hst⟩, hB⟩ := hs
    exact ⟨⟨v, e, boxed_own _ _ (fun _ : Unit => _) () W W' row hb hg (fun r e => (hr r e).2), hst⟩, ownFrom_below (Nat.le_refl _) (by omega) () W W' row hB hg hr⟩
  case assign =>
    intro l x W K hK
    generalize l0.getD x.1 0 = v at *
    generalize x.1 = j at *
    gi_wp2
    exact hK
  case body =>
    rintro l pre x W ⟨⟨⟨h0, h1, h2⟩, hB⟩, hpre⟩ _
    have HP := Aside0.mk hpre
    clear hpre
    have hx : x.1 < l0.length := x.2
    have hx1 : x.1 < l1.length := by rw [HL.out]; exact hx
    obtain ⟨ad, e, g0⟩ := Kd.at_int (Kd.C_below HR0.out hB) (x.1 : Int) (by omega) (by omega)
    cases e
    obtain ⟨ad1, e1, g1⟩ := Kd.at_int (Kd.C_below HR1.out hB) (x.1 : Int) (by omega) (by omega)
    cases e1
    have q0 : W.cell? (ad.add x.1) = some (.int .u64 (l0.getD x.1 0)) := by simpa [rd] using g0
    have q1 : W.cell? (ad1.add x.1) = some (.int .u64 (l1.getD x.1 0)) := by simpa [rd] using g1
    clear g0 g1
    obtain ⟨v, hv⟩ : ∃ v, v = cmpI (l0.getD x.1 0) (l1.getD x.1 0) := ⟨_, rfl⟩
    have HCu : ∀ W, Calls Tryz.prog 224 #[.int .u64 (l0.getD x.1 0), .int .u64 (l1.getD x.1 0)] W fun e w' => e = .returned (.int .i64 v) ∧ Drawn0 W w' := fun W => K.cmp_Compare_uint64.calls _ _ v W (by rw [hv]; exact cmpI_u64 _ _)
    have HV := Aside0.mk hv
    clear hv
    obtain ⟨j, hj⟩ : ∃ j : Nat, j = x.1 := ⟨_, rfl⟩
    have HJ := Aside0.mk hj
    rw [← hj] at hx hx1 q0 q1 HCu ⊢
    clear hj
    generalize l0.getD j 0 = p at *
    generalize l1.getD j 0 = q at *
    have g0 := h0.cell
    have g1 := h1.cell
    gi_wp2
    refine Hd.region_round (m := 10) (S := fun w' => w'.cell? ⟨w.heap.size, 0, none⟩ = some (.slice (some ad) l0.length c0) ∧ w'.cell? ⟨w.heap.size + 1, 0, none⟩ = some (.slice (some ad1) l1.length c1) ∧ w'.cell? (ad.add j) = some (.int .u64 p) ∧ w'.cell? (ad1.add j) = some (.int .u64 q)) (ds := []) #[false, false, false, false, false, false, false, false, false, false] (by kernel_rfl) rfl rfl (by kernel_rfl) ⟨g0, g1, q0, q1⟩ (fun hHeld => ?_)
    refine pure_ (i := 1) (N := (some 21)) (v := ?_) (a' := ?_) #[false, true, false, false, false, false, false, false, false, false] rfl rfl (by kernel_rfl) (fun _ _ _ h => absurd h.1 (by intro e; cases e)) (Or.inl ⟨by rfl, ?_⟩) ?_ ?_
    rotate_left
    · intro w'
      go_simp
      with_reducible rfl
    rotate_left
    · simp only [Act.put, List.setIfInBounds_toArray, List.set_cons_zero, List.set_cons_succ]
      rfl
    refine pure_ (i := 5) (N := (some 25)) (v := ?_) (a' := ?_) #[false, true, false, false, false, true, false, false, false, false] rfl rfl (by kernel_rfl) (fun _ _ _ h => absurd h.1 (by intro e; cases e)) (Or.inl ⟨by rfl, ?_⟩) ?_ ?_
    rotate_left
    · intro w'
      go_simp
      with_reducible rfl
    rotate_left
    · simp only [Act.put, List.setIfInBounds_toArray, List.set_cons_zero, List.set_cons_succ]
      rfl
    refine take_ (i := 0) (N := (some 20)) (v := ?_) (a' := ?_) #[true, true, false, false, false, true, false, false, false, false] rfl rfl (by kernel_rfl) (fun _ _ _ h => absurd h.1 (by intro e; cases e)) (Or.inl ⟨by rfl, ?_⟩) hHeld ?_ ?_
    rotate_left
    · intro w' hS
      obtain ⟨s0, s1, s2, s3⟩ := hS; go_simp; (try with_reducible rfl)
    rotate_left
    · simp only [Act.put, List.setIfInBounds_toArray, List.set_cons_zero, List.set_cons_succ]
      rfl
    refine take_ (i := 4) (N := (some 24)) (v := ?_) (a' := ?_) #[true, true, false, false, true, true, false, false, false, false] rfl rfl (by kernel_rfl) (fun _ _ _ h => absurd h.1 (by intro e; cases e)) (Or.inl ⟨by rfl, ?_⟩) hHeld ?_ ?_
    rotate_left
    · intro w' hS
      obtain ⟨s0, s1, s2, s3⟩ := hS; go_simp; (try with_reducible rfl)
    rotate_left
    · simp only [Act.put, List.setIfInBounds_toArray, List.set_cons_zero, List.set_cons_succ]
      rfl
    refine pure_ (i := 2) (N := (some 22)) (v := ?_) (a' := ?_) #[true, true, true, false, true, true, false, false, false, false] rfl rfl (by kernel_rfl) (fun _ _ _ h => absurd h.1 (by intro e; cases e)) (Or.inl ⟨by rfl, ?_⟩) ?_ ?_
    rotate_left
    · intro w'
      go_simp
      with_reducible rfl
    rotate_left
    · simp only [Act.put, List.setIfInBounds_toArray, List.set_cons_zero, List.set_cons_succ]
      rfl
    refine pure_ (i := 6) (N := (some 26)) (v := ?_) (a' := ?_) #[true, true, true, false, true, true, true, false, false, false] rfl rfl (by kernel_rfl) (fun _ _ _ h => absurd h.1 (by intro e; cases e)) (Or.inl ⟨by rfl, ?_⟩) ?_ ?_
    rotate_left
    · intro w'
      go_simp
      with_reducible rfl
    rotate_left
    · simp only [Act.put, List.setIfInBounds_toArray, List.set_cons_zero, List.set_cons_succ]
      rfl
    refine take_ (i := 3) (N := (some 23)) (v := ?_) (a' := ?_) #[true, true, true, true, true, true, true, false, false, false] rfl rfl (by kernel_rfl) (fun _ _ _ h => absurd h.1 (by intro e; cases e)) (Or.inl ⟨by rfl, ?_⟩) hHeld ?_ ?_
    rotate_left
    · intro w' hS
      obtain ⟨s0, s1, s2, s3⟩ := hS; go_simp; (try with_reducible rfl)
    rotate_left
    · simp only [Act.put, List.setIfInBounds_toArray, List.set_cons_zero, List.set_cons_succ]
      rfl
    refine take_ (i := 7) (N := (some 27)) (v := ?_) (a' := ?_) #[true, true, true, true, true, true, true, true, false, false] rfl rfl (by kernel_rfl) (fun _ _ _ h => absurd h.1 (by intro e; cases e)) (Or.inl ⟨by rfl, ?_⟩) hHeld ?_ ?_
    rotate_left
    · intro w' hS
      obtain ⟨s0, s1, s2, s3⟩ := hS; go_simp; (try with_reducible rfl)
    rotate_left
    · simp only [Act.put, List.setIfInBounds_toArray, List.set_cons_zero, List.set_cons_succ]
      rfl
    refine one_ (i := 8) (N := (some 28)) #[true, true, true, true, true, true, true, true, true, false] rfl rfl (by kernel_rfl) (by decide) (fun K hK => ?_)
    rw [if_pos (by rfl)]
    unfold Oper.wp
    go_simp
    refine (HCu _).mono ?_
    rintro e w' ⟨rfl, ⟨n2, rfl⟩⟩
    refine hK.out _ _ ⟨by simpa using g0, by simpa using g1, by simpa using q0, by simpa using q1⟩ (fun hHeld => ?_)
    clear hK K
    refine pure_ (i := 9) (N := (some 7)) (v := ?_) (a' := ?_) #[true, true, true, true, true, true, true, true, true, true] rfl rfl (by kernel_rfl) (fun _ _ _ h => absurd h.1 (by intro e; cases e)) (Or.inl ⟨by rfl, ?_⟩) ?_ ?_
    rotate_left
    · intro w'
      go_simp
      with_reducible rfl
    rotate_left
    · simp only [Act.put, List.setIfInBounds_toArray, List.set_cons_zero, List.set_cons_succ]
      rfl
    refine done_ (by kernel_rfl) ?_

    refine ⟨rfl, ?_⟩
    by_cases hv0 : v = 0
    · have b1 : (v != 0) = false := by rw [hv0]; rfl
      have HV0 := Aside0.mk hv0
      clear hv0
      gi_wp2
      have hh : (W.drewN (1 + n2)).heap = W.heap := by simp
      refine ⟨(⟨by rw [hh]; exact Nat.le_refl _, fun k o hk _ => by rw [hh]; exact hk⟩ : KeepsOthers W (W.drewN (1 + n2))).from _, ⟨pw_below_drewN (Below.refl _ W) (1 + n2), by rw [hh]⟩, ⟨⟨?_, ?_, ?_⟩, pw_below_drewN hB (1 + n2)⟩, ?_⟩
      · show (W.drewN (1 + n2)).heap[_]? = _
        rw [hh]
        exact h0
      · show (W.drewN (1 + n2)).heap[_]? = _
        rw [hh]
        exact h1
      · show (W.drewN (1 + n2)).heap[_]? = _
        rw [hh]
        exact h2
      · intro y hy
        rcases List.mem_append.mp hy with hy | hy
        · exact HP.out y hy
        · simp only [List.mem_singleton] at hy
          subst hy
          rw [← HV.out]
          exact HV0.out
    · have b1 : (v != 0) = true := bne_iff_ne.mpr hv0
      have HV0 := Aside0.mk hv0
      clear hv0
      have f2 := h2.frozen
      have g2 := h2.cell
      gi_wp2
      have hh : (W.drewN (1 + n2)).heap = W.heap := by simp
      have h2' : Boxed (W.drewN (1 + n2)) (w.heap.size + 1 + 1) 3 (.int .i64 0) := by
        show (W.drewN (1 + n2)).heap[_]? = _
        rw [hh]
        exact h2
      refine ⟨((⟨by rw [hh]; exact Nat.le_refl _, fun k o hk _ => by rw [hh]; exact hk⟩ : KeepsOthers W (W.drewN (1 + n2))).trans (KeepsOthers.setCell _ _ _)).from _, ⟨v, rfl, h2'.set _, pre, x, rfl, HP.out, HV.out, HV0.out⟩, (pw_below_drewN hB (1 + n2)).setCell (p := ⟨w.heap.size + 1 + 1, 0, none⟩) (by simp; omega) _⟩
  case done =>
    rintro D ys W hD rfl ⟨⟨⟨h0, h1, h2⟩, hB⟩, hall⟩ hK
    have hz := done_val l0 l1 hall
    have HZ := Aside0.mk hz
    clear hz hall
    have f2 := h2.frozen
    have g2 := h2.cell
    gi_wp2
    have hK' : (W.setCell ⟨w.heap.size + 1 + 1, 0, none⟩ (.int .i64 0)).heap[D]? = some (.deferred (some [])) := (Below.heap_setCell _ _ _ _ (by show _ ≠ _; simp only; omega)).trans hK
    have h3 : Boxed ((W.setCell ⟨w.heap.size + 1 + 1, 0, none⟩ (.int .i64 0)).putObj D (.deferred none)) (w.heap.size + 1 + 1) 3 (.int .i64 0) := (h2.set (.int .i64 0)).kept (grownBy_putObj' _ _ _) (fun e => by cases e; omega)
    refine ⟨by simp, .inl ⟨_, _, rfl, run_takeDeferred hK', ?_⟩⟩
    exact ⟨.int .i64 0, results_cell1 rfl _ _ (w.heap.size + 1 + 1) _ rfl h3.cell, by rw [HZ.out], (hB.setCell (p := ⟨w.heap.size + 1 + 1, 0, none⟩) (by simp; omega) _).trans (belowK_b (w := w) (Nat.le_refl _) _ D _ _ (by omega) hK' rfl rfl)⟩
  case stop =>
    rintro D c pre W hD ⟨k, hk, rfl⟩ ⟨⟨v, rfl, h2, hst⟩, hB⟩ hK
    have hz := stopped_val l0 l1 k hk v hst
    have HZ := Aside0.mk hz
    clear hz hst
    gi_wp2
    have h3 : Boxed (W.putObj D (.deferred none)) (w.heap.size + 1 + 1) 3 (.int .i64 v) := h2.kept (grownBy_putObj' _ _ _) (fun e => by cases e; omega)
    refine ⟨by simp, .inl ⟨_, _, rfl, run_takeDeferred hK, ?_⟩⟩
    exact ⟨.int .i64 v, results_cell1 rfl _ _ (w.heap.size + 1 + 1) _ rfl h3.cell, by rw [HZ.out], hB.trans (belowK_b (w := w) (Nat.le_refl _) W D _ _ (by omega) hK rfl rfl)⟩
theorem compare.calls (A0 : Option Addr) (c0 : Nat) (l0 : List Int) (A1 : Option Addr) (c1 : Nat) (l1 : List Int) (r : Int) (w : World) (hr0 : Kd.C (Kd.int .u64) w A0 l0.length l0) (hc0 : l0.length ≤ c0) (hr1 : Kd.C (Kd.int .u64) w A1 l1.length l1) (hc1 : l1.length ≤ c1) (h : compare.f l0 l1 = some r) :
    Calls Tryz.prog 195 #[.slice A0 l0.length c0, .slice A1 l1.length c1] w fun e w' => e = .returned (.int .i64 r) ∧ Below w.heap.size w w' := by
  simp only [compare.f, Option.some.injEq] at h
  subst h
  by_cases h : cmpI (l0.length : Int) (l1.length : Int) = 0
  · rw [if_pos h]
    exact compare.same A0 A1 c0 c1 l0 l1 w hr0 hr1 h
  · rw [if_neg h]
    exact compare.apart A0 A1 c0 c1 l0 l1 w h
end Go.Proofs.YtcpaajecppplhaaGreatDoor.Hd
end
