/- What the law leans on, part 36: declarations of several texts of ours, in their order. -/
import Derived.Test.YtaidmohjnbibiaaGreatDoorXE33
section
/- The document's division, plainly: figure by figure it tells the number rounded down, and what is left; and what it tells where a text is no number. -/
namespace Go.Proofs.YtaidmohjnbibiaaGreatDoor.Nm
open Go.Lib Go.RowKit Go.Proofs.YtaidmohjnbibiaaGreatDoorW.PrintWords Go.Proofs.YtaidmohjnbibiaaGreatDoorW.PrintLast Go.Proofs.YtaidmohjnbibiaaGreatDoor
set_option linter.unusedVariables false
set_option linter.unusedSimpArgs false
theorem ba_one (l : List UInt8) (i : Nat) (h : i < l.length) : (BA l).extract i (i + 1) = BA [l.getD i 0] := by
  apply ByteArray.ext
  rw [ByteArray.data_extract]
  apply Array.ext'
  simp only [BA, Array.toList_extract, List.extract, Nat.add_sub_cancel_left]
  rw [List.drop_eq_getElem_cons h, List.take_succ_cons, List.take_zero, List.getD, List.getElem?_eq_getElem h]
  rfl
theorem take_val (l : List UInt8) (i : Nat) (h : i < l.length) : val (l.take (i + 1)) = 10 * val (l.take i) + ((l.getD i 0).toNat - 48) := by
  rw [List.take_succ_eq_append_getElem h, val_snoc]
  simp [List.getD, List.getElem?_eq_getElem h]
theorem parts_step (T d Y : Nat) (hY : 0 < Y) (hd : d < 10) : (10 * (T % Y) + d) / Y ≤ 9 ∧ (10 * T + d) / Y = 10 * (T / Y) + (10 * (T % Y) + d) / Y ∧ (10 * T + d) % Y = (10 * (T % Y) + d) % Y := by
  have h1 := Nat.div_add_mod T Y
  have h2 := Nat.mod_lt T hY
  generalize T / Y = q at *
  generalize T % Y = r at *
  subst h1
  have e : 10 * (Y * q + r) + d = (10 * r + d) + Y * (10 * q) := by rw [Nat.mul_add, Nat.mul_left_comm]; omega
  rw [e, Nat.add_mul_div_left _ _ hY, Nat.add_mul_mod_self_left]
  refine ⟨?_, by omega, rfl⟩
  have : (10 * r + d) / Y < 10 := (Nat.div_lt_iff_lt_mul hY).2 (by omega)
  omega
theorem parts_inner (A qd : List UInt8) (Y z i : Nat) (hY : 0 < Y) (hz : z / Y ≤ 9) (hi : i < A.length) (hA : A.length ≤ 1000) (hq : qd.length ≤ 1000) (hzl : (decDigits z).length ≤ 2000) (hYl : (decDigits Y).length ≤ 2000) (r : ByteArray × ByteArray)
    (hk : Ev (fun k => K.reredosref01_parts.l0 k (BA A) (BA (decDigits Y)) (BA (qd ++ [UInt8.ofNat (48 + z / Y)])) (BA (decDigits (z % Y))) ((i + 1 : Nat) : Int)) r) : ∀ (d n : Nat), z / Y - n ≤ d → n ≤ z / Y →
    Ev (fun k => K.reredosref01_parts.l1 k (BA A) (BA (decDigits Y)) (BA qd) (BA (decDigits (z - n * Y))) (i : Int) (n : Int)) r := by
  intro d
  induction d with
  | zero =>
    intro n h1 h2
    have hn : n = z / Y := by omega
    subst hn
    have hm : z - z / Y * Y = z % Y := by have := Nat.div_add_mod z Y; rw [Nat.mul_comm] at this; omega
    have hlt := Nat.mod_lt z hY
    rw [hm]
    refine Ev.step (f := ?f) (fun k => ?h) ?g
    case h => rw [K.reredosref01_parts.l1]
    case g =>
      refine Ev.bind (more_ev (z % Y) Y (Nat.le_trans (dec_mono (Nat.mod_le z Y)) (by omega))) ?_
      refine Ev.congr (fun k => if_neg (by unfold cmpN; rw [if_pos hlt]; decide)) ?_
      simp only [Option.bind_some]
      rw [fig _ (by omega)]
      refine Ev.congr (fun k => if_pos (by rw [ba_size, ba_size]; simp only [List.length_cons, List.length_nil]; omega)) ?_
      rw [ba_append, w64 (by omega) (by omega)]
      exact hk
  | succ d ih =>
    intro n h1 h2
    by_cases hn : n = z / Y
    · exact ih n (by omega) h2
    · have hle : (n + 1) * Y ≤ z := by
        have h3 : (n + 1) * Y ≤ z / Y * Y := Nat.mul_le_mul_right _ (by omega)
        have h4 := Nat.div_mul_le_self z Y
        omega
      rw [Nat.add_mul, Nat.one_mul] at hle
      have hb : Y ≤ z - n * Y := by omega
      have hl : (decDigits (z - n * Y)).length ≤ 2000 := Nat.le_trans (dec_mono (Nat.sub_le _ _)) hzl
      refine Ev.step (f := ?f2) (fun k => ?h2) ?g2
      case h2 => rw [K.reredosref01_parts.l1]
      case g2 =>
        refine Ev.bind (more_ev (z - n * Y) Y (by omega)) ?_
        refine Ev.congr (fun k => if_pos (by unfold cmpN; rw [if_neg (by omega)]; split <;> decide)) ?_
        refine Ev.bind (minus_dec (z - n * Y) Y (by omega) (by omega) hb) ?_
        have h5 := ih (n + 1) (by omega) (by omega)
        rw [show z - (n + 1) * Y = z - n * Y - Y by rw [Nat.add_mul, Nat.one_mul]; omega] at h5
        rw [w64 (by omega) (by omega)]
        exact h5
theorem parts_outer (A : List UInt8) (hA : Dig A) (hl : A.length ≤ 1000) (Y : Nat) (hY : 0 < Y) (hYl : (decDigits Y).length ≤ 1000) : ∀ (d i : Nat), A.length - i ≤ d → i ≤ A.length → ∀ qd : List UInt8, Dig qd → val qd = val (A.take i) / Y → qd.length = i →
    Ev (fun k => K.reredosref01_parts.l0 k (BA A) (BA (decDigits Y)) (BA qd) (BA (decDigits (val (A.take i) % Y))) (i : Int)) (BA (decDigits (val A / Y)), BA (decDigits (val A % Y))) := by
  have fin : ∀ qd : List UInt8, Dig qd → val qd = val A / Y → qd.length = A.length → Ev (fun k => K.reredosref01_parts.l0 k (BA A) (BA (decDigits Y)) (BA qd) (BA (decDigits (val A % Y))) (A.length : Int)) (BA (decDigits (val A / Y)), BA (decDigits (val A % Y))) := by
    intro qd h1 h2 h3
    refine Ev.step (f := ?f) (fun k => ?h) ?g
    case h => rw [K.reredosref01_parts.l0]
    case g =>
      refine Ev.congr (fun k => if_neg (by rw [ba_size]; omega)) ?_
      refine Ev.bind (bare_ev qd h1 (by omega)) ?_
      rw [h2]
      exact Ev.now _
  intro d
  induction d with
  | zero =>
    intro i h1 h2 qd h3 h4 h5
    have hi : i = A.length := by omega
    subst hi
    rw [List.take_length] at h4 ⊢
    exact fin qd h3 h4 h5
  | succ d ih =>
    intro i h1 h2 qd h3 h4 h5
    by_cases hi : i = A.length
    · subst hi
      rw [List.take_length] at h4 ⊢
      exact fin qd h3 h4 h5
    · have hlt : i < A.length := by omega
      have hw : wrap64 ((i : Int) + 1) = ((i + 1 : Nat) : Int) := (w64 (by omega) (by omega)).trans (by omega)
      have c1 : (i : Int) < ((BA A).size : Int) := by rw [ba_size]; omega
      have c2 : (0 : Int) ≤ (i : Int) := by omega
      have c3 : (i : Int) ≤ wrap64 ((i : Int) + 1) := by rw [hw]; omega
      have c4 : wrap64 ((i : Int) + 1) ≤ ((BA A).size : Int) := by rw [hw, ba_size]; omega
      have hmem : A.getD i 0 ∈ A := by simp [List.getD, List.getElem?_eq_getElem hlt]
      have hc := hA _ hmem
      obtain ⟨c, hcc⟩ : ∃ c, c = A.getD i 0 := ⟨_, rfl⟩
      rw [← hcc] at hc
      obtain ⟨p1, p2, p3⟩ := parts_step (val (A.take i)) (c.toNat - 48) Y hY (by omega)
      have ht := take_val A i hlt
      rw [← hcc] at ht
      have hrl : (decDigits (val (A.take i) % Y)).length ≤ 1000 := Nat.le_trans (dec_mono (Nat.le_of_lt (Nat.mod_lt _ hY))) hYl
      have hdg : Dig (decDigits (val (A.take i) % Y) ++ [c]) := fun x hx => by
        rcases List.mem_append.1 hx with h | h
        · exact dig_decDigits _ x h
        · rw [List.mem_singleton.1 h]; exact hc
      have hb := bare_ev (decDigits (val (A.take i) % Y) ++ [c]) hdg (by rw [List.length_append]; simp only [List.length_cons, List.length_nil]; omega)
      rw [val_snoc, val_decDigits] at hb
      obtain ⟨z, hz⟩ : ∃ z, z = 10 * (val (A.take i) % Y) + (c.toNat - 48) := ⟨_, rfl⟩
      rw [← hz] at p1 p2 p3 hb
      have hzl : (decDigits z).length ≤ 2000 := by
        rw [hz]
        by_cases h0 : val (A.take i) % Y = 0
        · rw [h0, Nat.mul_zero, Nat.zero_add, decDigits_one (by omega)]
          simp
        · rw [decDigits_snoc _ _ (by omega) (by omega), List.length_append]
          simp only [List.length_cons, List.length_nil]
          omega
      obtain ⟨n, hn⟩ : ∃ n, n = z / Y := ⟨_, rfl⟩
      have p1' := p1
      rw [← hn] at p1 p2
      have hnext := ih (i + 1) (by omega) (by omega) (qd ++ [UInt8.ofNat (48 + n)]) (fun x hx => by
          rcases List.mem_append.1 hx with h | h
          · exact h3 x h
          · rw [List.mem_singleton.1 h, dig_ofNat _ (by omega)]; omega)
        (by rw [val_snoc, dig_ofNat _ (by omega), h4, ht, p2, Nat.add_sub_cancel_left]) (by rw [List.length_append, h5]; rfl)
      rw [hn] at hnext
      rw [ht, p3] at hnext
      have hin := parts_inner A qd Y z i hY p1' hlt hl (by omega) hzl (by omega) _ hnext (z / Y) 0 (Nat.le_refl _) (Nat.zero_le _)
      rw [Nat.zero_mul, Nat.sub_zero] at hin
      refine Ev.step (f := ?f3) (fun k => ?h3) ?g3
      case h3 => rw [K.reredosref01_parts.l0]
      case g3 =>
        refine Ev.congr (fun k => if_pos c1) ?_
        refine Ev.congr (fun k => if_pos c2) ?_
        refine Ev.congr (fun k => if_pos c3) ?_
        refine Ev.congr (fun k => if_pos c4) ?_
        rw [hw, Int.toNat_natCast, Int.toNat_natCast, ba_one A i hlt, ← hcc, ba_append]
        have c5 : (BA (decDigits (val (A.take i) % Y))).size + (BA [c]).size ≤ 9223372036854775807 := by
          rw [ba_size, ba_size]
          exact Nat.le_trans (Nat.add_le_add hrl (Nat.le_refl 1)) (by decide)
        refine Ev.congr (fun k => if_pos c5) ?_
        refine Ev.bind hb ?_
        exact hin
theorem parts_ev (X Y : Nat) (hY : 0 < Y) (hX : (decDigits X).length ≤ 1000) (hYl : (decDigits Y).length ≤ 1000) : Ev (fun k => K.reredosref01_parts.f k (BA (decDigits X)) (BA (decDigits Y))) (BA (decDigits (X / Y)), BA (decDigits (X % Y))) := by
  have h := parts_outer (decDigits X) (dig_decDigits X) hX Y hY hYl _ 0 (Nat.le_refl _) (Nat.zero_le _) [] (fun c h => by cases h) (by rw [List.take_zero, val_nil, Nat.zero_div]) rfl
  rw [List.take_zero, val_nil, Nat.zero_mod, decDigits_zero, val_decDigits] at h
  exact h
theorem fl_sv (X : Nat) (a : Bool) (Y : Nat) (b : Bool) (hY : 0 < Y) : fl (sv X a) (sv Y b) = if a = b then ((X / Y : Nat) : Int) else if X % Y = 0 then -((X / Y : Nat) : Int) else -((X / Y : Nat) : Int) - 1 := by
  have hYi : (0 : Int) < (Y : Int) := by omega
  have nd := neg_div X Y hY
  cases a <;> cases b
  · rw [if_pos rfl]
    show (if (0 : Int) < (Y : Int) then (X : Int) / (Y : Int) else _) = _
    rw [if_pos hYi]
    rfl
  · rw [if_neg (by decide), ← nd]
    show (if (0 : Int) < -(Y : Int) then _ else (-(X : Int)) / (-(-(Y : Int)))) = _
    rw [if_neg (by omega), Int.neg_neg]
  · rw [if_neg (by decide), ← nd]
    show (if (0 : Int) < (Y : Int) then (-(X : Int)) / (Y : Int) else _) = _
    rw [if_pos hYi]
  · rw [if_pos rfl]
    show (if (0 : Int) < -(Y : Int) then _ else (-(-(X : Int))) / (-(-(Y : Int)))) = _
    rw [if_neg (by omega), Int.neg_neg, Int.neg_neg]
    rfl
theorem fl_abs (x y : Int) (hy : y ≠ 0) : (fl x y).natAbs ≤ x.natAbs + 1 := by
  have h := fl_sv x.natAbs (decide (x < 0)) y.natAbs (decide (y < 0)) (by omega)
  rw [sv_abs, sv_abs] at h
  have h2 := Nat.div_le_self x.natAbs y.natAbs
  rw [h]
  generalize x.natAbs / y.natAbs = q at *
  split
  · omega
  · split <;> omega
theorem fl_nl (x y : Int) (hx : Sm x) (hy : y ≠ 0) : nl (fl x y) ≤ 101 := by
  refine nl_le (by decide) ?_
  have h1 := fl_abs x y hy
  have h2 : x.natAbs < 10 ^ 100 := hx
  have h3 : (10 : Nat) ^ 101 = 10 ^ 100 * 10 := by rw [show 101 = 100 + 1 from rfl, Nat.pow_succ]
  rw [h3]
  generalize (10 : Nat) ^ 100 = P at *
  omega
theorem floor_ev (x y : Int) (hx : Sm x) (hy : Sm y) (h0 : y ≠ 0) : Ev (fun k => K.reredosref01_floor.f k (numS x) (numS y)) (numS (fl x y)) := by
  have h1 : (decDigits x.natAbs).length ≤ 100 := sm_nl hx
  have h2 : (decDigits y.natAbs).length ≤ 100 := sm_nl hy
  have hY : 0 < y.natAbs := by omega
  have hf := fl_sv x.natAbs (decide (x < 0)) y.natAbs (decide (y < 0)) hY
  rw [sv_abs, sv_abs] at hf
  have hql : (decDigits (x.natAbs / y.natAbs)).length ≤ 100 := Nat.le_trans (dec_mono (Nat.div_le_self _ _)) h1
  unfold K.reredosref01_floor.f
  rw [size_ev, size_ev, low_ev, low_ev]
  simp only [Option.bind_some]
  refine Ev.bind (parts_ev x.natAbs y.natAbs hY (by omega) (by omega)) ?_
  simp only
  by_cases hs : decide (x < 0) = decide (y < 0)
  · rw [if_pos hs] at hf
    refine Ev.congr (fun k => if_pos (by rw [hs]; exact beq_self_eq_true _)) ?_
    rw [hf, numS_pos (Int.not_lt.mpr (Int.natCast_nonneg _)), Int.natAbs_natCast]
    exact Ev.now _
  · rw [if_neg hs] at hf
    refine Ev.congr (fun k => if_neg (by rw [beq_iff_eq]; exact hs)) ?_
    by_cases hr : x.natAbs % y.natAbs = 0
    · rw [if_pos hr] at hf
      refine Ev.congr (fun k => if_pos (by rw [ba_list, hr, decDigits_zero])) ?_
      refine Ev.bind (signed_dec (x.natAbs / y.natAbs) (by omega) true) ?_
      rw [if_pos rfl, ← hf]
      exact Ev.now _
    · rw [if_neg hr] at hf
      refine Ev.congr (fun k => if_neg (by rw [ba_list]; exact fun e => hr ((dec_zero_iff _).1 e))) ?_
      have e1 : (⟨#[49]⟩ : ByteArray) = BA (decDigits 1) := by rw [decDigits_one (show 1 < 10 by decide)]; rfl
      rw [e1]
      refine Ev.bind (plus_dec (x.natAbs / y.natAbs) 1 (by omega) (by rw [decDigits_one (show 1 < 10 by decide)]; decide)) ?_
      refine Ev.bind (signed_dec (x.natAbs / y.natAbs + 1) (Nat.le_trans (dec_add hql (show (decDigits 1).length ≤ 100 by rw [decDigits_one (show 1 < 10 by decide)]; decide)) (by decide)) true) ?_
      rw [if_pos rfl, show -((x.natAbs / y.natAbs + 1 : Nat) : Int) = -((x.natAbs / y.natAbs : Nat) : Int) - 1 by omega, ← hf]
      exact Ev.now _
theorem refDiv_zero (x : Int) (hx : Sm x) : Ev (fun k => K.reredosref01_Div.f k (numS x) (numS 0)) (BA [], 5) := by
  unfold K.reredosref01_Div.f
  refine Ev.bind (numS_may hx) ?_
  refine Ev.congr (fun k => if_pos rfl) ?_
  refine Ev.bind (numS_may (sm_i64 (z := 0) (by decide) (by decide))) ?_
  refine Ev.step (f := ?f) (fun k => ?h) ?g
  case h => rw [K.reredosref01_Div.j0]
  case g =>
    refine Ev.congr (fun k => (if_neg (by decide)).trans (if_pos (by rw [numS_list]; exact (itoa_zero_iff 0).2 rfl))) ?_
    exact Ev.now _
theorem refDiv_ev (x y : Int) (hx : Sm x) (hy : Sm y) (h0 : y ≠ 0) : Ev (fun k => K.reredosref01_Div.f k (numS x) (numS y)) (told (fl x y)) := by
  unfold K.reredosref01_Div.f
  refine Ev.bind (numS_may hx) ?_
  refine Ev.congr (fun k => if_pos rfl) ?_
  refine Ev.bind (numS_may hy) ?_
  refine Ev.step (f := ?f) (fun k => ?h) ?g
  case h => rw [K.reredosref01_Div.j0]
  case g =>
    refine Ev.congr (fun k => (if_neg (by decide)).trans (if_neg (by rw [numS_list]; exact fun e => h0 ((itoa_zero_iff y).1 e)))) ?_
    · refine Ev.bind (floor_ev x y hx hy h0) ?_
      rw [told_ev]
      exact Ev.now _
theorem refMod_zero (x : Int) (hx : Sm x) : Ev (fun k => K.reredosref01_Mod.f k (numS x) (numS 0)) (BA [], 5) := by
  unfold K.reredosref01_Mod.f
  refine Ev.bind (numS_may hx) ?_
  refine Ev.congr (fun k => if_pos rfl) ?_
  refine Ev.bind (numS_may (sm_i64 (z := 0) (by decide) (by decide))) ?_
  refine Ev.step (f := ?f) (fun k => ?h) ?g
  case h => rw [K.reredosref01_Mod.j0]
  case g =>
    refine Ev.congr (fun k => (if_neg (by decide)).trans (if_pos (by rw [numS_list]; exact (itoa_zero_iff 0).2 rfl))) ?_
    exact Ev.now _
theorem refMod_ev (x y : Int) (hx : Sm x) (hy : Sm y) (h0 : y ≠ 0) : Ev (fun k => K.reredosref01_Mod.f k (numS x) (numS y)) (told (fm x y)) := by
  unfold K.reredosref01_Mod.f
  refine Ev.bind (numS_may hx) ?_
  refine Ev.congr (fun k => if_pos rfl) ?_
  refine Ev.bind (numS_may hy) ?_
  refine Ev.step (f := ?f) (fun k => ?h) ?g
  case h => rw [K.reredosref01_Mod.j0]
  case g =>
    refine Ev.congr (fun k => (if_neg (by decide)).trans (if_neg (by rw [numS_list]; exact fun e => h0 ((itoa_zero_iff y).1 e)))) ?_
    · have hfl := fl_nl x y hx h0
      have hyl : nl y ≤ 100 := sm_nl hy
      have hxl : nl x ≤ 100 := sm_nl hx
      have hp := nl_mul y (fl x y)
      refine Ev.bind (floor_ev x y hx hy h0) ?_
      refine Ev.bind (product_ev y (fl x y) (by omega) (by omega)) ?_
      refine Ev.bind (turned_ev (y * fl x y) (by omega)) ?_
      refine Ev.bind (sum_ev x (-(y * fl x y)) (by omega) (by rw [nl_neg]; omega)) ?_
      rw [told_ev, show x + -(y * fl x y) = fm x y from rfl]
      exact Ev.now _
end Go.Proofs.YtaidmohjnbibiaaGreatDoor.Nm
end
