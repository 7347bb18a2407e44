/- What the law leans on, part 23: declarations of several texts of ours, in their order. -/
import Derived.Test.YtjldjhlccedkbaaGreatDoorXP11
import Derived.Test.YtjldjhlccedkbaaGreatDoorXP18
import Derived.Test.YtjldjhlccedkbaaGreatDoorXP21
import Derived.Test.YtjldjhlccedkbaaGreatDoorXP13
section
/- What Go's library tells of numbers' texts; whether a text is a number. -/
namespace Go.Proofs.YtjldjhlccedkbaaGreatDoor.Nm
open Go.Lib Go.RowKit Go.Proofs.YtjldjhlccedkbaaGreatDoorW.PrintWords Go.Proofs.YtjldjhlccedkbaaGreatDoorW.PrintLast Go.Proofs.YtjldjhlccedkbaaGreatDoor
set_option linter.unusedVariables false
set_option linter.unusedSimpArgs false
theorem idx_all (l : List UInt8) : ∀ (d p : Nat), l.length - p ≤ d → p ≤ l.length → decide (0 ≤ idxFuncFrom Hd.notDigit true (BA l) d p) = !((l.drop p).all digB)
  | 0, p, h0, hp => by
    rw [List.drop_of_length_le (by omega)]
    simp [idxFuncFrom]
  | d + 1, p, h0, hp => by
    unfold idxFuncFrom
    rw [ba_size]
    by_cases hlt : p < l.length
    · rw [if_pos hlt, List.drop_eq_getElem_cons hlt, List.all_cons]
      have hg : (BA l).data.toList.getD p 0 = l[p] := by rw [ba_data]; simp [List.getD, List.getElem?_eq_getElem hlt]
      by_cases h128 : l[p].toNat < 128
      · rw [decode_asc _ _ (by rw [hg]; exact h128), hg]
        simp only
        by_cases hd : digB l[p] = true
        · have := (digB_iff _).mp hd
          rw [show Hd.notDigit l[p].toNat = false by simp [Hd.notDigit]; omega, if_neg (by decide), hd, Bool.true_and]
          exact idx_all l d (p + 1) (by omega) (by omega)
        · rw [show Hd.notDigit l[p].toNat = true by simp [digB] at hd; simp [Hd.notDigit]; omega, if_pos rfl, Bool.eq_false_iff.mpr hd]
          simp
      · have hhi := decode_high (BA l) p (by rw [hg]; omega)
        rw [show Hd.notDigit (Utf8.decode (BA l) p).1 = true by simp [Hd.notDigit]; omega, if_pos rfl, show digB l[p] = false by simp [digB]; omega]
        simp
    · rw [if_neg hlt, List.drop_of_length_le (by omega)]
      simp
theorem contains_ev (l : List UInt8) : Hd.containsFunc_May.f (BA l) = some (!(l.all digB)) := by
  unfold Hd.containsFunc_May.f
  have := idx_all l l.length 0 (by omega) (by omega)
  rw [List.drop_zero] at this
  rw [← this]
  unfold idxFunc
  rw [ba_size]
theorem parse_part (l : List UInt8) (hd : Dig l) (hne : l ≠ []) (hl : l.length ≤ 9) : Hd.parseUint.f (BA l) 10 64 = some ((val l : Int), none) := by
  have hv : val l < 1000000000 := Nat.lt_of_lt_of_le (val_lt l hd) (Nat.le_trans (Nat.pow_le_pow_right (by decide) hl) (by decide))
  unfold Hd.parseUint.f
  rw [if_pos ⟨rfl, rfl, by rw [ba_size]; omega⟩, ba_data]
  have e : parseUintB 64 l = .ok (val l) := by
    unfold parseUintB
    rw [if_neg hne, parseM l hd 0 (by decide), Nat.zero_mul, Nat.zero_add, if_pos (by omega)]
  rw [e]
theorem chunk_ck (m : List Nat) (i : Fin (il m).length) : Hd.chunk (il m) i = ck m i.1 := by
  unfold Hd.chunk ck
  rw [il_getD, Int.toNat_natCast]
  simp only [il_len]
theorem bk_flat (m : List Nat) : (Hd.bk (il m).length (il m).length).flatMap (Hd.chunk (il m)) = tx m := by
  have h1 : (Hd.bk (il m).length (il m).length) = (List.finRange (il m).length).reverse := by
    unfold Hd.bk
    rw [List.take_of_length_le (by simp)]
  rw [h1, ← ck_flat m]
  have h2 : (List.range m.length) = (List.finRange (il m).length).map (fun i => i.1) := by
    apply List.ext_getElem
    · simp [il_len]
    · intro i h1 h2; simp
  rw [h2, ← List.map_reverse, List.flatMap_map]
  congr 1
  funext i
  exact chunk_ck m i
theorem text_ev (n : Nat) (b : Bool) (hl : (mg n).length ≤ 1000000) : Hd.wtext.f (il (mg n)) b = some (if n = 0 then BA [48] else BA ((if b = true then [45] else []) ++ decDigits n)) := by
  unfold Hd.wtext.f
  by_cases h : n = 0
  · subst h
    rw [mg_zero]
    rfl
  · have hne : il (mg n) ≠ [] := fun e => h (mg_nil.mp (by have := congrArg List.length e; rw [il_len] at this; exact List.length_eq_zero_iff.mp (by simpa using this)))
    have hp : ∀ x ∈ il (mg n), 0 ≤ x ∧ x < 1000000000 := fun x hx => by
      simp only [il, List.mem_map] at hx
      obtain ⟨y, hy, rfl⟩ := hx
      have := pt_mg n y hy
      omega
    rw [if_neg hne, if_pos ⟨hp, by rw [il_len]; exact hl⟩, if_neg h, bk_flat, tx_mg n h]
theorem text_sv (n : Nat) (b : Bool) (hb : b = true → n ≠ 0) (hl : (mg n).length ≤ 1000000) : Hd.wtext.f (il (mg n)) b = some (numS (sv n b)) := by
  rw [text_ev n b hl]
  congr 1
  by_cases h : n = 0
  · subst h
    have : b = false := by
      cases b with
      | true => exact absurd rfl (hb rfl)
      | false => rfl
    subst this
    rw [if_pos rfl, show sv 0 false = 0 from rfl, numS_pos (by decide)]
    exact congrArg BA decDigits_zero.symm
  · rw [if_neg h]
    cases b with
    | true =>
      rw [if_pos rfl, show sv n true = -(n : Int) from rfl, numS_neg (by omega), Int.natAbs_neg, Int.natAbs_natCast]
      rfl
    | false =>
      rw [if_neg (by decide), show sv n false = (n : Int) from rfl, numS_pos (by omega), Int.natAbs_natCast]
      rfl
end Go.Proofs.YtjldjhlccedkbaaGreatDoor.Nm
namespace Go.Proofs.YtjldjhlccedkbaaGreatDoor.Am
open Go Go.RowKit Go.Proofs.YtjldjhlccedkbaaGreatDoor.Nm Go.Proofs.YtjldjhlccedkbaaGreatDoorW.PrintWords Go.Proofs.YtjldjhlccedkbaaGreatDoor
set_option linter.unusedVariables false
set_option linter.unusedSimpArgs false
set_option maxRecDepth 100000
set_option maxHeartbeats 1000000
abbrev wD (n : Nat) (b : Bool) : D := .agg [rU (mg n) none, bD b]
theorem containsM_runs (l : List UInt8) : Runs Tryz.prog 101 [sD (BA l), .fn 102 []] (bD (!(l.all digB))) := by
  refine ⟨⟨_, Tryz.func101, rfl, by decide⟩, fun w S vs hG hS hl hv => ?_⟩
  obtain ⟨v0, v1, rfl⟩ := two hl
  have d0 := Dr.v_inv (hv 0 _ _ rfl rfl)
  subst d0
  have d1 := hv 1 _ _ rfl rfl
  cases d1 with
  | fn us h1 h2 =>
    obtain rfl := List.eq_nil_of_length_eq_zero h1
    refine (Hd.containsFunc_May.calls (BA l) _ w (contains_ev l)).mono ?_
    rintro e w' ⟨rfl, hb⟩
    exact ⟨_, rfl, hb, .v _⟩
theorem parseU_runs (l : List UInt8) (hd : Dig l) (hne : l ≠ []) (hl9 : l.length ≤ 9) : Runs Tryz.prog 161 [sD (BA l), iD 10, iD 64] (.tup [uD (val l), .v .nilIface]) := by
  refine ⟨⟨_, Tryz.func161, rfl, by decide⟩, fun w S vs hG hS hl hv => ?_⟩
  obtain ⟨v0, v1, v2, rfl⟩ := three hl
  have d0 := Dr.v_inv (hv 0 _ _ rfl rfl)
  have d1 := Dr.v_inv (hv 1 _ _ rfl rfl)
  have d2 := Dr.v_inv (hv 2 _ _ rfl rfl)
  subst d0 d1 d2
  refine (Hd.parseUint.calls (BA l) 10 64 _ _ w (parse_part l hd hne hl9)).mono ?_
  rintro e w' ⟨rfl, hb⟩
  exact ⟨_, rfl, hb, Dr.tup2 (.v _) (.v _)⟩
theorem text_runs (n : Nat) (b : Bool) (hb : b = true → n ≠ 0) (hn : (mg n).length ≤ 1000000) : Runs Tryz.prog 151 [wD n b] (sD (numS (sv n b))) := by
  refine ⟨⟨_, Tryz.func151, rfl, by decide⟩, fun w S vs hG hS hl hv => ?_⟩
  obtain ⟨v0, rfl⟩ := one_ hl
  obtain ⟨a, c, rfl, da, dc⟩ := Dr.agg2 (hv 0 _ _ rfl rfl)
  obtain rfl := Dr.v_inv dc
  obtain ⟨A, k, rfl, hk, hC⟩ := Dr.rU_C da
  refine (Hd.wtext.calls A k _ b _ w hC hk hG (text_sv n b hb hn)).mono ?_
  rintro e w' ⟨rfl, hb⟩
  exact ⟨_, rfl, hb, .v _⟩
theorem of_runs (x : Int) (h1 : -9223372036854775808 ≤ x) (h2 : x ≤ 9223372036854775807) : Runs Tryz.prog 118 [iD x] (sD (numS x)) := by
  refine ⟨⟨_, Tryz.func118, rfl, by decide⟩, fun w S vs hG hS hl hv => ?_⟩
  obtain ⟨v0, rfl⟩ := one_ hl
  obtain rfl := Dr.v_inv (hv 0 _ _ rfl rfl)
  refine (Hd.numOf.calls x _ w hG (by unfold Hd.numOf.f; rw [if_pos ⟨h1, h2⟩])).mono ?_
  rintro e w' ⟨rfl, hb⟩
  exact ⟨_, rfl, hb, .v _⟩
def hyp : List UInt8 → Bool
  | c :: _ => c == 45
  | [] => false
theorem hasP_runs (l : List UInt8) : Runs Tryz.prog 162 [sD (BA l), sD ⟨#[45]⟩] (bD (hyp l)) := by
  cases l with
  | nil =>
    refine Runs.wp Go.Proofs.YtjldjhlccedkbaaGreatDoor.Am.hT Go.Proofs.YtjldjhlccedkbaaGreatDoor.Am.hm Tryz.func162 rfl (by decide) ⟨[], [0, 1, 4], 18⟩ ?_; ((conv => whnf); repeat ((first | refine Wo ?_ | refine Lt (by decide) ?_ | refine Lf (by decide) ?_ | refine Cl (by decide) ?_ | refine Cr (by decide) ?_ | refine ⟨_, rfl, ?_⟩ | refine Mi rfl ?_); (conv => whnf)))
    ((conv => whnf); ((repeat ((conv => arg 1; whnf); first | exact Tels.nil | apply Tels.cons | apply Tel.aggs | apply Tel.tups | exact Tel.refl _ | exact Tel.nil1 _ | exact Tel.cap _ _ _ _)); done))
  | cons c r =>
    have hs : ((BA (c :: r)).size : Int) ≥ ((⟨#[45]⟩ : ByteArray).size : Int) := by rw [ba_size]; show (1 : Int) ≤ _; simp; omega
    have he : (((BA (c :: r)).extract (Int.toNat 0) (Int.toNat ((⟨#[45]⟩ : ByteArray).size : Int))).toList == (⟨#[45]⟩ : ByteArray).toList) = (c == 45) := by
      have h1 : ((BA (c :: r)).extract (Int.toNat 0) (Int.toNat ((⟨#[45]⟩ : ByteArray).size : Int))).toList = [c] := extract0 c r
      rw [h1, show (⟨#[45]⟩ : ByteArray).toList = [45] from ba_list [45]]
      simp
    refine Runs.wp Go.Proofs.YtjldjhlccedkbaaGreatDoor.Am.hT Go.Proofs.YtjldjhlccedkbaaGreatDoor.Am.hm Tryz.func162 rfl (by decide) ⟨[], [0, 1, 4], 18⟩ ?_; ((conv => whnf); repeat ((first | refine Wo ?_ | refine Lt (by decide) ?_ | refine Lf (by decide) ?_ | refine Cl (by decide) ?_ | refine Cr (by decide) ?_ | refine ⟨_, rfl, ?_⟩ | refine Mi rfl ?_); (conv => whnf)))
    refine Lt (by simpa using hs) ?_
    ((conv => whnf); repeat ((first | refine Wo ?_ | refine Lt (by decide) ?_ | refine Lf (by decide) ?_ | refine Cl (by decide) ?_ | refine Cr (by decide) ?_ | refine ⟨_, rfl, ?_⟩ | refine Mi rfl ?_ | (refine And.intro ?_ ?_; focus (first | decide | rfl | assumption | omega | (dsimp only; omega) | (unfold maxLen; omega) | ((try dsimp only [maxLen]); simp only [List.length_append, List.length_cons, List.length_nil, List.length_map, List.length_range, List.length_set, List.length_replicate]; omega) | ((try dsimp only [maxLen]); simp only [IntKind.wrap_i64, IntKind.wrap_u64, List.length_append, List.length_cons, List.length_nil, List.length_map, List.length_range, List.length_set, List.length_replicate]; omega) | ((try dsimp only [maxLen]); simp only [List.length_append, List.length_cons, List.length_nil, List.length_map, List.length_range, List.length_set, List.length_replicate] at *; omega)))); (conv => whnf)))
    refine litE he ?_
    ((conv => whnf); repeat ((first | refine Wo ?_ | refine Lt (by decide) ?_ | refine Lf (by decide) ?_ | refine Cl (by decide) ?_ | refine Cr (by decide) ?_ | refine ⟨_, rfl, ?_⟩ | refine Mi rfl ?_); (conv => whnf)))
    ((conv => whnf); ((repeat ((conv => arg 1; whnf); first | exact Tels.nil | apply Tels.cons | apply Tel.aggs | apply Tel.tups | exact Tel.refl _ | exact Tel.nil1 _ | exact Tel.cap _ _ _ _)); done))
theorem trimP_runs (l : List UInt8) : Runs Tryz.prog 100 [sD (BA l), sD ⟨#[45]⟩] (sD (BA (body l))) := by
  have h : Runs Tryz.prog 142 [sD (BA l), sD ⟨#[45]⟩] (sD (BA (body l))) := by
    have h0 := hasP_runs l
    cases l with
    | nil =>
      refine Runs.wp Go.Proofs.YtjldjhlccedkbaaGreatDoor.Am.hT Go.Proofs.YtjldjhlccedkbaaGreatDoor.Am.hm Tryz.func142 rfl (by decide) ⟨[], [0, 1, 4, 7], 13⟩ ?_; ((conv => whnf); repeat ((first | refine Wo ?_ | refine Lt (by decide) ?_ | refine Lf (by decide) ?_ | refine Cl (by decide) ?_ | refine Cr (by decide) ?_ | refine ⟨_, rfl, ?_⟩ | refine Mi rfl ?_); (conv => whnf)))
      ((conv => whnf); (refine Hc.flat h0 ?_ rfl ?_; (focus ((repeat ((conv => arg 1; whnf); first | exact Tels.nil | apply Tels.cons | apply Tel.aggs | apply Tel.tups | exact Tel.refl _ | exact Tel.nil1 _ | exact Tel.cap _ _ _ _)); done))); ((conv => whnf); repeat ((first | refine Wo ?_ | refine Lt (by decide) ?_ | refine Lf (by decide) ?_ | refine Cl (by decide) ?_ | refine Cr (by decide) ?_ | refine ⟨_, rfl, ?_⟩ | refine Mi rfl ?_); (conv => whnf))))
      ((conv => whnf); ((repeat ((conv => arg 1; whnf); first | exact Tels.nil | apply Tels.cons | apply Tel.aggs | apply Tel.tups | exact Tel.refl _ | exact Tel.nil1 _ | exact Tel.cap _ _ _ _)); done))
    | cons c r =>
      rw [show hyp (c :: r) = (c == 45) from rfl] at h0
      by_cases hc : c = 45
      · subst hc
        have hs : ((⟨#[45]⟩ : ByteArray).size : Int) ≤ ((BA (45 :: r)).size : Int) := by rw [ba_size (45 :: r), List.length_cons]; show ((1 : Nat) : Int) ≤ _; omega
        have he : (BA (45 :: r)).extract (Int.toNat ((⟨#[45]⟩ : ByteArray).size : Int)) (Int.toNat ((BA (45 :: r)).size : Int)) = BA r := ba_extract1 45 r
        rw [show body (45 :: r) = r by rw [body_cons, if_pos (by decide)]]
        refine Runs.wp Go.Proofs.YtjldjhlccedkbaaGreatDoor.Am.hT Go.Proofs.YtjldjhlccedkbaaGreatDoor.Am.hm Tryz.func142 rfl (by decide) ⟨[], [0, 1, 4, 7], 13⟩ ?_; ((conv => whnf); repeat ((first | refine Wo ?_ | refine Lt (by decide) ?_ | refine Lf (by decide) ?_ | refine Cl (by decide) ?_ | refine Cr (by decide) ?_ | refine ⟨_, rfl, ?_⟩ | refine Mi rfl ?_); (conv => whnf)))
        ((conv => whnf); (refine Hc.flat h0 ?_ rfl ?_; (focus ((repeat ((conv => arg 1; whnf); first | exact Tels.nil | apply Tels.cons | apply Tel.aggs | apply Tel.tups | exact Tel.refl _ | exact Tel.nil1 _ | exact Tel.cap _ _ _ _)); done))); ((conv => whnf); repeat ((first | refine Wo ?_ | refine Lt (by decide) ?_ | refine Lf (by decide) ?_ | refine Cl (by decide) ?_ | refine Cr (by decide) ?_ | refine ⟨_, rfl, ?_⟩ | refine Mi rfl ?_); (conv => whnf))))
        ((conv => whnf); repeat ((first | refine Wo ?_ | refine Lt (by decide) ?_ | refine Lf (by decide) ?_ | refine Cl (by decide) ?_ | refine Cr (by decide) ?_ | refine ⟨_, rfl, ?_⟩ | refine Mi rfl ?_ | (refine And.intro ?_ ?_; focus (first | decide | rfl | assumption | omega | (dsimp only; omega) | (unfold maxLen; omega) | ((try dsimp only [maxLen]); simp only [List.length_append, List.length_cons, List.length_nil, List.length_map, List.length_range, List.length_set, List.length_replicate]; omega) | ((try dsimp only [maxLen]); simp only [IntKind.wrap_i64, IntKind.wrap_u64, List.length_append, List.length_cons, List.length_nil, List.length_map, List.length_range, List.length_set, List.length_replicate]; omega) | ((try dsimp only [maxLen]); simp only [List.length_append, List.length_cons, List.length_nil, List.length_map, List.length_range, List.length_set, List.length_replicate] at *; omega)))); (conv => whnf)))
        rw [he]
        ((conv => whnf); ((repeat ((conv => arg 1; whnf); first | exact Tels.nil | apply Tels.cons | apply Tel.aggs | apply Tel.tups | exact Tel.refl _ | exact Tel.nil1 _ | exact Tel.cap _ _ _ _)); done))
      · rw [show (c == 45) = false by simpa using hc] at h0
        rw [show body (c :: r) = c :: r by rw [body_cons, if_neg (fun e : c.toNat = 45 => hc (UInt8.toNat_inj.mp e))]]
        refine Runs.wp Go.Proofs.YtjldjhlccedkbaaGreatDoor.Am.hT Go.Proofs.YtjldjhlccedkbaaGreatDoor.Am.hm Tryz.func142 rfl (by decide) ⟨[], [0, 1, 4, 7], 13⟩ ?_; ((conv => whnf); repeat ((first | refine Wo ?_ | refine Lt (by decide) ?_ | refine Lf (by decide) ?_ | refine Cl (by decide) ?_ | refine Cr (by decide) ?_ | refine ⟨_, rfl, ?_⟩ | refine Mi rfl ?_); (conv => whnf)))
        ((conv => whnf); (refine Hc.flat h0 ?_ rfl ?_; (focus ((repeat ((conv => arg 1; whnf); first | exact Tels.nil | apply Tels.cons | apply Tel.aggs | apply Tel.tups | exact Tel.refl _ | exact Tel.nil1 _ | exact Tel.cap _ _ _ _)); done))); ((conv => whnf); repeat ((first | refine Wo ?_ | refine Lt (by decide) ?_ | refine Lf (by decide) ?_ | refine Cl (by decide) ?_ | refine Cr (by decide) ?_ | refine ⟨_, rfl, ?_⟩ | refine Mi rfl ?_); (conv => whnf))))
        ((conv => whnf); ((repeat ((conv => arg 1; whnf); first | exact Tels.nil | apply Tels.cons | apply Tel.aggs | apply Tel.tups | exact Tel.refl _ | exact Tel.nil1 _ | exact Tel.cap _ _ _ _)); done))
  refine Runs.wp Go.Proofs.YtjldjhlccedkbaaGreatDoor.Am.hT Go.Proofs.YtjldjhlccedkbaaGreatDoor.Am.hm Tryz.func100 rfl (by decide) ⟨[], [0, 1, 4], 8⟩ ?_; ((conv => whnf); repeat ((first | refine Wo ?_ | refine Lt (by decide) ?_ | refine Lf (by decide) ?_ | refine Cl (by decide) ?_ | refine Cr (by decide) ?_ | refine ⟨_, rfl, ?_⟩ | refine Mi rfl ?_); (conv => whnf)))
  ((conv => whnf); (refine Hc.flat h ?_ rfl ?_; (focus ((repeat ((conv => arg 1; whnf); first | exact Tels.nil | apply Tels.cons | apply Tel.aggs | apply Tel.tups | exact Tel.refl _ | exact Tel.nil1 _ | exact Tel.cap _ _ _ _)); done))); ((conv => whnf); repeat ((first | refine Wo ?_ | refine Lt (by decide) ?_ | refine Lf (by decide) ?_ | refine Cl (by decide) ?_ | refine Cr (by decide) ?_ | refine ⟨_, rfl, ?_⟩ | refine Mi rfl ?_); (conv => whnf))))
  ((conv => whnf); ((repeat ((conv => arg 1; whnf); first | exact Tels.nil | apply Tels.cons | apply Tel.aggs | apply Tel.tups | exact Tel.refl _ | exact Tel.nil1 _ | exact Tel.cap _ _ _ _)); done))
theorem u8E (c : UInt8) (n : Nat) (hn : n < 256) : (((c.toNat : Nat) : Int) == (n : Int)) = (c.toNat == n) := by
  by_cases h : c.toNat = n
  · subst h; simp
  · rw [beq_eq_false_iff_ne.mpr h]
    exact beq_eq_false_iff_ne.mpr (by omega)
theorem may_runs (l : List UInt8) : Runs Tryz.prog 48 [sD (BA l)] (bD (mayL l)) := by
  have ht := trimP_runs l
  have hc := containsM_runs (body l)
  have ez : (!((BA l).toList == (⟨#[48]⟩ : ByteArray).toList)) = (l != [48]) := by rw [ba_list, show (⟨#[48]⟩ : ByteArray).toList = [48] from ba_list [48]]; rfl
  unfold mayL
  generalize hf : body l = f at *
  have hs : ((BA f).size : Int) = (f.length : Int) := by rw [ba_size]
  cases f with
  | nil =>
    have hl : l ≠ [48] := fun e => by subst e; exact absurd hf (by decide)
    rw [show (l == [48]) = false from beq_eq_false_iff_ne.mpr hl, Bool.false_or, decide_eq_false (show ¬ 1 ≤ ([] : List UInt8).length by decide), Bool.false_and, Bool.false_and, Bool.false_and]
    refine Runs.wp Go.Proofs.YtjldjhlccedkbaaGreatDoor.Am.hT Go.Proofs.YtjldjhlccedkbaaGreatDoor.Am.hm Tryz.func48 rfl (by decide) ⟨[], [0, 2, 3, 22], 26⟩ ?_; ((conv => whnf); repeat ((first | refine Wo ?_ | refine Lt (by decide) ?_ | refine Lf (by decide) ?_ | refine Cl (by decide) ?_ | refine Cr (by decide) ?_ | refine ⟨_, rfl, ?_⟩ | refine Mi rfl ?_); (conv => whnf)))
    ((conv => whnf); (refine Hc.flat ht ?_ rfl ?_; (focus ((repeat ((conv => arg 1; whnf); first | exact Tels.nil | apply Tels.cons | apply Tel.aggs | apply Tel.tups | exact Tel.refl _ | exact Tel.nil1 _ | exact Tel.cap _ _ _ _)); done))); ((conv => whnf); repeat ((first | refine Wo ?_ | refine Lt (by decide) ?_ | refine Lf (by decide) ?_ | refine Cl (by decide) ?_ | refine Cr (by decide) ?_ | refine ⟨_, rfl, ?_⟩ | refine Mi rfl ?_); (conv => whnf))))
    ((conv => whnf); ((repeat ((conv => arg 1; whnf); first | exact Tels.nil | apply Tels.cons | apply Tel.aggs | apply Tel.tups | exact Tel.refl _ | exact Tel.nil1 _ | exact Tel.cap _ _ _ _)); done))
  | cons c r =>
    have e1 : decide (((BA (c :: r)).size : Int) < 1) = false := by rw [decide_eq_false_iff_not]; simp at hs; omega
    rw [decide_eq_true (show 1 ≤ (c :: r).length by simp), Bool.true_and]
    by_cases h2 : (c :: r).length ≤ 100
    · have e2 : decide (((BA (c :: r)).size : Int) > 100) = false := by rw [decide_eq_false_iff_not]; omega
      have hb0 : 0 < ((BA (c :: r)).size : Int) := by rw [hs]; simp
      rw [decide_eq_true h2, Bool.true_and, List.headD_cons]
      by_cases h48 : c.toNat = 48
      · have e3 : (((c.toNat : Nat) : Int) == 48) = true := by rw [h48]; rfl
        by_cases hl : l = [48]
        · rw [show (l == [48]) = true by rw [hl]; rfl, Bool.true_or]
          have hl2 : (l != [48]) = false := by rw [hl]; rfl
          have hr0 : r = [] := by
            rw [hl, show body [48] = [48] by decide] at hf
            simp at hf
            exact hf.2
          have hall : (!(c :: r).all digB) = false := by
            have : c = 48 := UInt8.toNat_inj.mp h48
            rw [hr0, this]
            decide
          rw [hall] at hc
          refine Runs.wp Go.Proofs.YtjldjhlccedkbaaGreatDoor.Am.hT Go.Proofs.YtjldjhlccedkbaaGreatDoor.Am.hm Tryz.func48 rfl (by decide) ⟨[], [0, 2, 3, 22], 26⟩ ?_; ((conv => whnf); repeat ((first | refine Wo ?_ | refine Lt (by decide) ?_ | refine Lf (by decide) ?_ | refine Cl (by decide) ?_ | refine Cr (by decide) ?_ | refine ⟨_, rfl, ?_⟩ | refine Mi rfl ?_); (conv => whnf)))
          ((conv => whnf); (refine Hc.flat ht ?_ rfl ?_; (focus ((repeat ((conv => arg 1; whnf); first | exact Tels.nil | apply Tels.cons | apply Tel.aggs | apply Tel.tups | exact Tel.refl _ | exact Tel.nil1 _ | exact Tel.cap _ _ _ _)); done))); ((conv => whnf); repeat ((first | refine Wo ?_ | refine Lt (by decide) ?_ | refine Lf (by decide) ?_ | refine Cl (by decide) ?_ | refine Cr (by decide) ?_ | refine ⟨_, rfl, ?_⟩ | refine Mi rfl ?_); (conv => whnf))))
          refine Lf e1 ?_
          ((conv => whnf); repeat ((first | refine Wo ?_ | refine Lt (by decide) ?_ | refine Lf (by decide) ?_ | refine Cl (by decide) ?_ | refine Cr (by decide) ?_ | refine ⟨_, rfl, ?_⟩ | refine Mi rfl ?_); (conv => whnf)))
          refine Lf e2 ?_
          ((conv => whnf); repeat ((first | refine Wo ?_ | refine Lt (by decide) ?_ | refine Lf (by decide) ?_ | refine Cl (by decide) ?_ | refine Cr (by decide) ?_ | refine ⟨_, rfl, ?_⟩ | refine Mi rfl ?_ | (refine And.intro ?_ ?_; focus (first | decide | rfl | assumption | omega | (dsimp only; omega) | (unfold maxLen; omega) | ((try dsimp only [maxLen]); simp only [List.length_append, List.length_cons, List.length_nil, List.length_map, List.length_range, List.length_set, List.length_replicate]; omega) | ((try dsimp only [maxLen]); simp only [IntKind.wrap_i64, IntKind.wrap_u64, List.length_append, List.length_cons, List.length_nil, List.length_map, List.length_range, List.length_set, List.length_replicate]; omega) | ((try dsimp only [maxLen]); simp only [List.length_append, List.length_cons, List.length_nil, List.length_map, List.length_range, List.length_set, List.length_replicate] at *; omega)))); (conv => whnf)))
          refine Lt e3 ?_
          ((conv => whnf); repeat ((first | refine Wo ?_ | refine Lt (by decide) ?_ | refine Lf (by decide) ?_ | refine Cl (by decide) ?_ | refine Cr (by decide) ?_ | refine ⟨_, rfl, ?_⟩ | refine Mi rfl ?_); (conv => whnf)))
          refine litE (ez.trans hl2) ?_
          ((conv => whnf); repeat ((first | refine Wo ?_ | refine Lt (by decide) ?_ | refine Lf (by decide) ?_ | refine Cl (by decide) ?_ | refine Cr (by decide) ?_ | refine ⟨_, rfl, ?_⟩ | refine Mi rfl ?_); (conv => whnf)))
          ((conv => whnf); (refine Hc.flat hc ?_ rfl ?_; (focus ((repeat ((conv => arg 1; whnf); first | exact Tels.nil | apply Tels.cons | apply Tel.aggs | apply Tel.tups | exact Tel.refl _ | exact Tel.nil1 _ | exact Tel.cap _ _ _ _)); done))); ((conv => whnf); repeat ((first | refine Wo ?_ | refine Lt (by decide) ?_ | refine Lf (by decide) ?_ | refine Cl (by decide) ?_ | refine Cr (by decide) ?_ | refine ⟨_, rfl, ?_⟩ | refine Mi rfl ?_); (conv => whnf))))
          ((conv => whnf); ((repeat ((conv => arg 1; whnf); first | exact Tels.nil | apply Tels.cons | apply Tel.aggs | apply Tel.tups | exact Tel.refl _ | exact Tel.nil1 _ | exact Tel.cap _ _ _ _)); done))
        · rw [show (l == [48]) = false from beq_eq_false_iff_ne.mpr hl, Bool.false_or, h48, show ((48 : Nat) != 48) = false from rfl, Bool.false_and]
          have hl2 : (l != [48]) = true := by simpa using hl
          refine Runs.wp Go.Proofs.YtjldjhlccedkbaaGreatDoor.Am.hT Go.Proofs.YtjldjhlccedkbaaGreatDoor.Am.hm Tryz.func48 rfl (by decide) ⟨[], [0, 2, 3, 22], 26⟩ ?_; ((conv => whnf); repeat ((first | refine Wo ?_ | refine Lt (by decide) ?_ | refine Lf (by decide) ?_ | refine Cl (by decide) ?_ | refine Cr (by decide) ?_ | refine ⟨_, rfl, ?_⟩ | refine Mi rfl ?_); (conv => whnf)))
          ((conv => whnf); (refine Hc.flat ht ?_ rfl ?_; (focus ((repeat ((conv => arg 1; whnf); first | exact Tels.nil | apply Tels.cons | apply Tel.aggs | apply Tel.tups | exact Tel.refl _ | exact Tel.nil1 _ | exact Tel.cap _ _ _ _)); done))); ((conv => whnf); repeat ((first | refine Wo ?_ | refine Lt (by decide) ?_ | refine Lf (by decide) ?_ | refine Cl (by decide) ?_ | refine Cr (by decide) ?_ | refine ⟨_, rfl, ?_⟩ | refine Mi rfl ?_); (conv => whnf))))
          refine Lf e1 ?_
          ((conv => whnf); repeat ((first | refine Wo ?_ | refine Lt (by decide) ?_ | refine Lf (by decide) ?_ | refine Cl (by decide) ?_ | refine Cr (by decide) ?_ | refine ⟨_, rfl, ?_⟩ | refine Mi rfl ?_); (conv => whnf)))
          refine Lf e2 ?_
          ((conv => whnf); repeat ((first | refine Wo ?_ | refine Lt (by decide) ?_ | refine Lf (by decide) ?_ | refine Cl (by decide) ?_ | refine Cr (by decide) ?_ | refine ⟨_, rfl, ?_⟩ | refine Mi rfl ?_ | (refine And.intro ?_ ?_; focus (first | decide | rfl | assumption | omega | (dsimp only; omega) | (unfold maxLen; omega) | ((try dsimp only [maxLen]); simp only [List.length_append, List.length_cons, List.length_nil, List.length_map, List.length_range, List.length_set, List.length_replicate]; omega) | ((try dsimp only [maxLen]); simp only [IntKind.wrap_i64, IntKind.wrap_u64, List.length_append, List.length_cons, List.length_nil, List.length_map, List.length_range, List.length_set, List.length_replicate]; omega) | ((try dsimp only [maxLen]); simp only [List.length_append, List.length_cons, List.length_nil, List.length_map, List.length_range, List.length_set, List.length_replicate] at *; omega)))); (conv => whnf)))
          refine Lt e3 ?_
          ((conv => whnf); repeat ((first | refine Wo ?_ | refine Lt (by decide) ?_ | refine Lf (by decide) ?_ | refine Cl (by decide) ?_ | refine Cr (by decide) ?_ | refine ⟨_, rfl, ?_⟩ | refine Mi rfl ?_); (conv => whnf)))
          refine litE (ez.trans hl2) ?_
          ((conv => whnf); repeat ((first | refine Wo ?_ | refine Lt (by decide) ?_ | refine Lf (by decide) ?_ | refine Cl (by decide) ?_ | refine Cr (by decide) ?_ | refine ⟨_, rfl, ?_⟩ | refine Mi rfl ?_); (conv => whnf)))
          ((conv => whnf); ((repeat ((conv => arg 1; whnf); first | exact Tels.nil | apply Tels.cons | apply Tel.aggs | apply Tel.tups | exact Tel.refl _ | exact Tel.nil1 _ | exact Tel.cap _ _ _ _)); done))
      · have e3 : (((c.toNat : Nat) : Int) == 48) = false := beq_eq_false_iff_ne.mpr (by omega)
        have hl : l ≠ [48] := fun e => by subst e; rw [show body [48] = [48] by decide] at hf; simp at hf; exact h48 (by rw [← hf.1]; rfl)
        rw [show (l == [48]) = false from beq_eq_false_iff_ne.mpr hl, Bool.false_or, show (c.toNat != 48) = true by simpa using h48, Bool.true_and]
        cases hall : (c :: r).all digB with
        | true =>
          rw [hall] at hc
          refine Runs.wp Go.Proofs.YtjldjhlccedkbaaGreatDoor.Am.hT Go.Proofs.YtjldjhlccedkbaaGreatDoor.Am.hm Tryz.func48 rfl (by decide) ⟨[], [0, 2, 3, 22], 26⟩ ?_; ((conv => whnf); repeat ((first | refine Wo ?_ | refine Lt (by decide) ?_ | refine Lf (by decide) ?_ | refine Cl (by decide) ?_ | refine Cr (by decide) ?_ | refine ⟨_, rfl, ?_⟩ | refine Mi rfl ?_); (conv => whnf)))
          ((conv => whnf); (refine Hc.flat ht ?_ rfl ?_; (focus ((repeat ((conv => arg 1; whnf); first | exact Tels.nil | apply Tels.cons | apply Tel.aggs | apply Tel.tups | exact Tel.refl _ | exact Tel.nil1 _ | exact Tel.cap _ _ _ _)); done))); ((conv => whnf); repeat ((first | refine Wo ?_ | refine Lt (by decide) ?_ | refine Lf (by decide) ?_ | refine Cl (by decide) ?_ | refine Cr (by decide) ?_ | refine ⟨_, rfl, ?_⟩ | refine Mi rfl ?_); (conv => whnf))))
          refine Lf e1 ?_
          ((conv => whnf); repeat ((first | refine Wo ?_ | refine Lt (by decide) ?_ | refine Lf (by decide) ?_ | refine Cl (by decide) ?_ | refine Cr (by decide) ?_ | refine ⟨_, rfl, ?_⟩ | refine Mi rfl ?_); (conv => whnf)))
          refine Lf e2 ?_
          ((conv => whnf); repeat ((first | refine Wo ?_ | refine Lt (by decide) ?_ | refine Lf (by decide) ?_ | refine Cl (by decide) ?_ | refine Cr (by decide) ?_ | refine ⟨_, rfl, ?_⟩ | refine Mi rfl ?_ | (refine And.intro ?_ ?_; focus (first | decide | rfl | assumption | omega | (dsimp only; omega) | (unfold maxLen; omega) | ((try dsimp only [maxLen]); simp only [List.length_append, List.length_cons, List.length_nil, List.length_map, List.length_range, List.length_set, List.length_replicate]; omega) | ((try dsimp only [maxLen]); simp only [IntKind.wrap_i64, IntKind.wrap_u64, List.length_append, List.length_cons, List.length_nil, List.length_map, List.length_range, List.length_set, List.length_replicate]; omega) | ((try dsimp only [maxLen]); simp only [List.length_append, List.length_cons, List.length_nil, List.length_map, List.length_range, List.length_set, List.length_replicate] at *; omega)))); (conv => whnf)))
          refine Lf e3 ?_
          ((conv => whnf); repeat ((first | refine Wo ?_ | refine Lt (by decide) ?_ | refine Lf (by decide) ?_ | refine Cl (by decide) ?_ | refine Cr (by decide) ?_ | refine ⟨_, rfl, ?_⟩ | refine Mi rfl ?_); (conv => whnf)))
          ((conv => whnf); (refine Hc.flat hc ?_ rfl ?_; (focus ((repeat ((conv => arg 1; whnf); first | exact Tels.nil | apply Tels.cons | apply Tel.aggs | apply Tel.tups | exact Tel.refl _ | exact Tel.nil1 _ | exact Tel.cap _ _ _ _)); done))); ((conv => whnf); repeat ((first | refine Wo ?_ | refine Lt (by decide) ?_ | refine Lf (by decide) ?_ | refine Cl (by decide) ?_ | refine Cr (by decide) ?_ | refine ⟨_, rfl, ?_⟩ | refine Mi rfl ?_); (conv => whnf))))
          ((conv => whnf); ((repeat ((conv => arg 1; whnf); first | exact Tels.nil | apply Tels.cons | apply Tel.aggs | apply Tel.tups | exact Tel.refl _ | exact Tel.nil1 _ | exact Tel.cap _ _ _ _)); done))
        | false =>
          rw [hall] at hc
          refine Runs.wp Go.Proofs.YtjldjhlccedkbaaGreatDoor.Am.hT Go.Proofs.YtjldjhlccedkbaaGreatDoor.Am.hm Tryz.func48 rfl (by decide) ⟨[], [0, 2, 3, 22], 26⟩ ?_; ((conv => whnf); repeat ((first | refine Wo ?_ | refine Lt (by decide) ?_ | refine Lf (by decide) ?_ | refine Cl (by decide) ?_ | refine Cr (by decide) ?_ | refine ⟨_, rfl, ?_⟩ | refine Mi rfl ?_); (conv => whnf)))
          ((conv => whnf); (refine Hc.flat ht ?_ rfl ?_; (focus ((repeat ((conv => arg 1; whnf); first | exact Tels.nil | apply Tels.cons | apply Tel.aggs | apply Tel.tups | exact Tel.refl _ | exact Tel.nil1 _ | exact Tel.cap _ _ _ _)); done))); ((conv => whnf); repeat ((first | refine Wo ?_ | refine Lt (by decide) ?_ | refine Lf (by decide) ?_ | refine Cl (by decide) ?_ | refine Cr (by decide) ?_ | refine ⟨_, rfl, ?_⟩ | refine Mi rfl ?_); (conv => whnf))))
          refine Lf e1 ?_
          ((conv => whnf); repeat ((first | refine Wo ?_ | refine Lt (by decide) ?_ | refine Lf (by decide) ?_ | refine Cl (by decide) ?_ | refine Cr (by decide) ?_ | refine ⟨_, rfl, ?_⟩ | refine Mi rfl ?_); (conv => whnf)))
          refine Lf e2 ?_
          ((conv => whnf); repeat ((first | refine Wo ?_ | refine Lt (by decide) ?_ | refine Lf (by decide) ?_ | refine Cl (by decide) ?_ | refine Cr (by decide) ?_ | refine ⟨_, rfl, ?_⟩ | refine Mi rfl ?_ | (refine And.intro ?_ ?_; focus (first | decide | rfl | assumption | omega | (dsimp only; omega) | (unfold maxLen; omega) | ((try dsimp only [maxLen]); simp only [List.length_append, List.length_cons, List.length_nil, List.length_map, List.length_range, List.length_set, List.length_replicate]; omega) | ((try dsimp only [maxLen]); simp only [IntKind.wrap_i64, IntKind.wrap_u64, List.length_append, List.length_cons, List.length_nil, List.length_map, List.length_range, List.length_set, List.length_replicate]; omega) | ((try dsimp only [maxLen]); simp only [List.length_append, List.length_cons, List.length_nil, List.length_map, List.length_range, List.length_set, List.length_replicate] at *; omega)))); (conv => whnf)))
          refine Lf e3 ?_
          ((conv => whnf); repeat ((first | refine Wo ?_ | refine Lt (by decide) ?_ | refine Lf (by decide) ?_ | refine Cl (by decide) ?_ | refine Cr (by decide) ?_ | refine ⟨_, rfl, ?_⟩ | refine Mi rfl ?_); (conv => whnf)))
          ((conv => whnf); (refine Hc.flat hc ?_ rfl ?_; (focus ((repeat ((conv => arg 1; whnf); first | exact Tels.nil | apply Tels.cons | apply Tel.aggs | apply Tel.tups | exact Tel.refl _ | exact Tel.nil1 _ | exact Tel.cap _ _ _ _)); done))); ((conv => whnf); repeat ((first | refine Wo ?_ | refine Lt (by decide) ?_ | refine Lf (by decide) ?_ | refine Cl (by decide) ?_ | refine Cr (by decide) ?_ | refine ⟨_, rfl, ?_⟩ | refine Mi rfl ?_); (conv => whnf))))
          ((conv => whnf); ((repeat ((conv => arg 1; whnf); first | exact Tels.nil | apply Tels.cons | apply Tel.aggs | apply Tel.tups | exact Tel.refl _ | exact Tel.nil1 _ | exact Tel.cap _ _ _ _)); done))
    · have hl : l ≠ [48] := fun e => by subst e; rw [show body [48] = [48] by decide] at hf; rw [← hf] at h2; exact absurd (by decide) h2
      have e2 : decide (((BA (c :: r)).size : Int) > 100) = true := by rw [decide_eq_true_eq]; omega
      rw [show (l == [48]) = false from beq_eq_false_iff_ne.mpr hl, Bool.false_or, decide_eq_false h2, Bool.false_and, Bool.false_and]
      refine Runs.wp Go.Proofs.YtjldjhlccedkbaaGreatDoor.Am.hT Go.Proofs.YtjldjhlccedkbaaGreatDoor.Am.hm Tryz.func48 rfl (by decide) ⟨[], [0, 2, 3, 22], 26⟩ ?_; ((conv => whnf); repeat ((first | refine Wo ?_ | refine Lt (by decide) ?_ | refine Lf (by decide) ?_ | refine Cl (by decide) ?_ | refine Cr (by decide) ?_ | refine ⟨_, rfl, ?_⟩ | refine Mi rfl ?_); (conv => whnf)))
      ((conv => whnf); (refine Hc.flat ht ?_ rfl ?_; (focus ((repeat ((conv => arg 1; whnf); first | exact Tels.nil | apply Tels.cons | apply Tel.aggs | apply Tel.tups | exact Tel.refl _ | exact Tel.nil1 _ | exact Tel.cap _ _ _ _)); done))); ((conv => whnf); repeat ((first | refine Wo ?_ | refine Lt (by decide) ?_ | refine Lf (by decide) ?_ | refine Cl (by decide) ?_ | refine Cr (by decide) ?_ | refine ⟨_, rfl, ?_⟩ | refine Mi rfl ?_); (conv => whnf))))
      refine Lf e1 ?_
      ((conv => whnf); repeat ((first | refine Wo ?_ | refine Lt (by decide) ?_ | refine Lf (by decide) ?_ | refine Cl (by decide) ?_ | refine Cr (by decide) ?_ | refine ⟨_, rfl, ?_⟩ | refine Mi rfl ?_); (conv => whnf)))
      refine Lt e2 ?_
      ((conv => whnf); repeat ((first | refine Wo ?_ | refine Lt (by decide) ?_ | refine Lf (by decide) ?_ | refine Cl (by decide) ?_ | refine Cr (by decide) ?_ | refine ⟨_, rfl, ?_⟩ | refine Mi rfl ?_); (conv => whnf)))
      ((conv => whnf); ((repeat ((conv => arg 1; whnf); first | exact Tels.nil | apply Tels.cons | apply Tel.aggs | apply Tel.tups | exact Tel.refl _ | exact Tel.nil1 _ | exact Tel.cap _ _ _ _)); done))
end Go.Proofs.YtjldjhlccedkbaaGreatDoor.Am
end
section
/- Arrays: whether they may be, whether they are the same, of one element, of a row. -/
namespace Go.Proofs.YtjldjhlccedkbaaGreatDoor.Am
open Go Go.RowKit Go.Proofs.YtjldjhlccedkbaaGreatDoor.Sh
set_option linter.unusedVariables false
set_option linter.unusedSimpArgs false
set_option maxRecDepth 100000
set_option maxHeartbeats 8000000
def mayB (b : ByteArray) : Bool := Nm.mayL b.data.toList
theorem mayB_runs (b : ByteArray) : Runs Tryz.prog 48 [sD b] (bD (mayB b)) := by
  have := may_runs b.data.toList
  rwa [show Nm.BA b.data.toList = b from (Nm.ba_of b).symm] at this
def good (s : List Int) (e : List ByteArray) : Bool := decide ((sizeS s).2 = 0) && decide ((e.length : Int) = (sizeS s).1) && e.all mayB
theorem may1_runs (b : ByteArray) : Runs Tryz.prog 47 [sD b] (bD (!mayB b)) := by
  have h := mayB_runs b
  refine Runs.wp Go.Proofs.YtjldjhlccedkbaaGreatDoor.Am.hT Go.Proofs.YtjldjhlccedkbaaGreatDoor.Am.hm Tryz.func47 rfl (by decide) ⟨[], [0, 2], 6⟩ ?_; ((conv => whnf); repeat ((first | refine Wo ?_ | refine Lt (by decide) ?_ | refine Lf (by decide) ?_ | refine Cl (by decide) ?_ | refine Cr (by decide) ?_ | refine ⟨_, rfl, ?_⟩ | refine Mi rfl ?_); (conv => whnf)))
  ((conv => whnf); (refine Hc.flat h ?_ rfl ?_; (focus ((repeat ((conv => arg 1; whnf); first | exact Tels.nil | apply Tels.cons | apply Tel.aggs | apply Tel.tups | exact Tel.refl _ | exact Tel.nil1 _ | exact Tel.cap _ _ _ _)); done))); ((conv => whnf); repeat ((first | refine Wo ?_ | refine Lt (by decide) ?_ | refine Lf (by decide) ?_ | refine Cl (by decide) ?_ | refine Cr (by decide) ?_ | refine ⟨_, rfl, ?_⟩ | refine Mi rfl ?_); (conv => whnf))))
  ((conv => whnf); ((repeat ((conv => arg 1; whnf); first | exact Tels.nil | apply Tels.cons | apply Tel.aggs | apply Tel.tups | exact Tel.refl _ | exact Tel.nil1 _ | exact Tel.cap _ _ _ _)); done))
theorem any_not (e : List ByteArray) : (e.any fun b => !mayB b) = !(e.all mayB) := by
  induction e with
  | nil => rfl
  | cons x l ih => rw [List.any_cons, List.all_cons, ih]; cases mayB x <;> rfl
theorem vmay_runs (s : List Int) (e : List ByteArray) (hs : s.length ≤ 9223372036854775807) (he : e.length ≤ 9223372036854775807) : Runs Tryz.prog 15 [vD s e none none] (bD (good s e)) := by
  have h1 := size_runs s hs
  have h2 := contFS_runs (l := e) (p := fun b => !mayB b) (F := 47) he (fun x _ => may1_runs x)
  rw [any_not] at h2
  unfold good
  generalize sizeS s = q at *
  obtain ⟨n, x⟩ := q
  dsimp only at *
  by_cases hx : x = 0
  · have e1 : (x == 0) = true := by rw [hx]; rfl
    by_cases hn : (e.length : Int) = n
    · have e2 : (((e.length : Nat) : Int) == n) = true := by rw [hn]; exact beq_self_eq_true _
      rw [decide_eq_true hx, decide_eq_true hn, Bool.true_and, Bool.true_and]
      generalize e.all mayB = z at *
      cases z with
      | true =>
        refine Runs.wp Go.Proofs.YtjldjhlccedkbaaGreatDoor.Am.hT Go.Proofs.YtjldjhlccedkbaaGreatDoor.Am.hm Tryz.func15 rfl (by decide) ⟨[], [0, 1, 2, 3, 4], 26⟩ ?_; ((conv => whnf); repeat ((first | refine Wo ?_ | refine Lt (by decide) ?_ | refine Lf (by decide) ?_ | refine Cl (by decide) ?_ | refine Cr (by decide) ?_ | refine ⟨_, rfl, ?_⟩ | refine Mi rfl ?_); (conv => whnf)))
        ((conv => whnf); (refine Hc.runs h1 ?_ ?_; (focus ((repeat ((conv => arg 1; whnf); first | exact Tels.nil | apply Tels.cons | apply Tel.aggs | apply Tel.tups | exact Tel.refl _ | exact Tel.nil1 _ | exact Tel.cap _ _ _ _)); done))); ((conv => whnf); repeat ((first | refine Wo ?_ | refine Lt (by decide) ?_ | refine Lf (by decide) ?_ | refine Cl (by decide) ?_ | refine Cr (by decide) ?_ | refine ⟨_, rfl, ?_⟩ | refine Mi rfl ?_); (conv => whnf))))
        refine litE e1 ?_
        ((conv => whnf); repeat ((first | refine Wo ?_ | refine Lt (by decide) ?_ | refine Lf (by decide) ?_ | refine Cl (by decide) ?_ | refine Cr (by decide) ?_ | refine ⟨_, rfl, ?_⟩ | refine Mi rfl ?_); (conv => whnf)))
        refine litE e2 ?_
        ((conv => whnf); repeat ((first | refine Wo ?_ | refine Lt (by decide) ?_ | refine Lf (by decide) ?_ | refine Cl (by decide) ?_ | refine Cr (by decide) ?_ | refine ⟨_, rfl, ?_⟩ | refine Mi rfl ?_); (conv => whnf)))
        ((conv => whnf); (refine Hc.flat h2 ?_ rfl ?_; (focus ((repeat ((conv => arg 1; whnf); first | exact Tels.nil | apply Tels.cons | apply Tel.aggs | apply Tel.tups | exact Tel.refl _ | exact Tel.nil1 _ | exact Tel.cap _ _ _ _)); done))); ((conv => whnf); repeat ((first | refine Wo ?_ | refine Lt (by decide) ?_ | refine Lf (by decide) ?_ | refine Cl (by decide) ?_ | refine Cr (by decide) ?_ | refine ⟨_, rfl, ?_⟩ | refine Mi rfl ?_); (conv => whnf))))
        ((conv => whnf); ((repeat ((conv => arg 1; whnf); first | exact Tels.nil | apply Tels.cons | apply Tel.aggs | apply Tel.tups | exact Tel.refl _ | exact Tel.nil1 _ | exact Tel.cap _ _ _ _)); done))
      | false =>
        refine Runs.wp Go.Proofs.YtjldjhlccedkbaaGreatDoor.Am.hT Go.Proofs.YtjldjhlccedkbaaGreatDoor.Am.hm Tryz.func15 rfl (by decide) ⟨[], [0, 1, 2, 3, 4], 26⟩ ?_; ((conv => whnf); repeat ((first | refine Wo ?_ | refine Lt (by decide) ?_ | refine Lf (by decide) ?_ | refine Cl (by decide) ?_ | refine Cr (by decide) ?_ | refine ⟨_, rfl, ?_⟩ | refine Mi rfl ?_); (conv => whnf)))
        ((conv => whnf); (refine Hc.runs h1 ?_ ?_; (focus ((repeat ((conv => arg 1; whnf); first | exact Tels.nil | apply Tels.cons | apply Tel.aggs | apply Tel.tups | exact Tel.refl _ | exact Tel.nil1 _ | exact Tel.cap _ _ _ _)); done))); ((conv => whnf); repeat ((first | refine Wo ?_ | refine Lt (by decide) ?_ | refine Lf (by decide) ?_ | refine Cl (by decide) ?_ | refine Cr (by decide) ?_ | refine ⟨_, rfl, ?_⟩ | refine Mi rfl ?_); (conv => whnf))))
        refine litE e1 ?_
        ((conv => whnf); repeat ((first | refine Wo ?_ | refine Lt (by decide) ?_ | refine Lf (by decide) ?_ | refine Cl (by decide) ?_ | refine Cr (by decide) ?_ | refine ⟨_, rfl, ?_⟩ | refine Mi rfl ?_); (conv => whnf)))
        refine litE e2 ?_
        ((conv => whnf); repeat ((first | refine Wo ?_ | refine Lt (by decide) ?_ | refine Lf (by decide) ?_ | refine Cl (by decide) ?_ | refine Cr (by decide) ?_ | refine ⟨_, rfl, ?_⟩ | refine Mi rfl ?_); (conv => whnf)))
        ((conv => whnf); (refine Hc.flat h2 ?_ rfl ?_; (focus ((repeat ((conv => arg 1; whnf); first | exact Tels.nil | apply Tels.cons | apply Tel.aggs | apply Tel.tups | exact Tel.refl _ | exact Tel.nil1 _ | exact Tel.cap _ _ _ _)); done))); ((conv => whnf); repeat ((first | refine Wo ?_ | refine Lt (by decide) ?_ | refine Lf (by decide) ?_ | refine Cl (by decide) ?_ | refine Cr (by decide) ?_ | refine ⟨_, rfl, ?_⟩ | refine Mi rfl ?_); (conv => whnf))))
        ((conv => whnf); ((repeat ((conv => arg 1; whnf); first | exact Tels.nil | apply Tels.cons | apply Tel.aggs | apply Tel.tups | exact Tel.refl _ | exact Tel.nil1 _ | exact Tel.cap _ _ _ _)); done))
    · have e2 : (((e.length : Nat) : Int) == n) = false := by rw [beq_eq_false_iff_ne]; exact hn
      rw [decide_eq_false hn, Bool.and_false, Bool.false_and]
      refine Runs.wp Go.Proofs.YtjldjhlccedkbaaGreatDoor.Am.hT Go.Proofs.YtjldjhlccedkbaaGreatDoor.Am.hm Tryz.func15 rfl (by decide) ⟨[], [0, 1, 2, 3, 4], 26⟩ ?_; ((conv => whnf); repeat ((first | refine Wo ?_ | refine Lt (by decide) ?_ | refine Lf (by decide) ?_ | refine Cl (by decide) ?_ | refine Cr (by decide) ?_ | refine ⟨_, rfl, ?_⟩ | refine Mi rfl ?_); (conv => whnf)))
      ((conv => whnf); (refine Hc.runs h1 ?_ ?_; (focus ((repeat ((conv => arg 1; whnf); first | exact Tels.nil | apply Tels.cons | apply Tel.aggs | apply Tel.tups | exact Tel.refl _ | exact Tel.nil1 _ | exact Tel.cap _ _ _ _)); done))); ((conv => whnf); repeat ((first | refine Wo ?_ | refine Lt (by decide) ?_ | refine Lf (by decide) ?_ | refine Cl (by decide) ?_ | refine Cr (by decide) ?_ | refine ⟨_, rfl, ?_⟩ | refine Mi rfl ?_); (conv => whnf))))
      refine litE e1 ?_
      ((conv => whnf); repeat ((first | refine Wo ?_ | refine Lt (by decide) ?_ | refine Lf (by decide) ?_ | refine Cl (by decide) ?_ | refine Cr (by decide) ?_ | refine ⟨_, rfl, ?_⟩ | refine Mi rfl ?_); (conv => whnf)))
      refine litE e2 ?_
      ((conv => whnf); repeat ((first | refine Wo ?_ | refine Lt (by decide) ?_ | refine Lf (by decide) ?_ | refine Cl (by decide) ?_ | refine Cr (by decide) ?_ | refine ⟨_, rfl, ?_⟩ | refine Mi rfl ?_); (conv => whnf)))
      ((conv => whnf); ((repeat ((conv => arg 1; whnf); first | exact Tels.nil | apply Tels.cons | apply Tel.aggs | apply Tel.tups | exact Tel.refl _ | exact Tel.nil1 _ | exact Tel.cap _ _ _ _)); done))
  · have e1 : (x == 0) = false := by rw [beq_eq_false_iff_ne]; exact hx
    rw [decide_eq_false hx, Bool.false_and, Bool.false_and]
    refine Runs.wp Go.Proofs.YtjldjhlccedkbaaGreatDoor.Am.hT Go.Proofs.YtjldjhlccedkbaaGreatDoor.Am.hm Tryz.func15 rfl (by decide) ⟨[], [0, 1, 2, 3, 4], 26⟩ ?_; ((conv => whnf); repeat ((first | refine Wo ?_ | refine Lt (by decide) ?_ | refine Lf (by decide) ?_ | refine Cl (by decide) ?_ | refine Cr (by decide) ?_ | refine ⟨_, rfl, ?_⟩ | refine Mi rfl ?_); (conv => whnf)))
    ((conv => whnf); (refine Hc.runs h1 ?_ ?_; (focus ((repeat ((conv => arg 1; whnf); first | exact Tels.nil | apply Tels.cons | apply Tel.aggs | apply Tel.tups | exact Tel.refl _ | exact Tel.nil1 _ | exact Tel.cap _ _ _ _)); done))); ((conv => whnf); repeat ((first | refine Wo ?_ | refine Lt (by decide) ?_ | refine Lf (by decide) ?_ | refine Cl (by decide) ?_ | refine Cr (by decide) ?_ | refine ⟨_, rfl, ?_⟩ | refine Mi rfl ?_); (conv => whnf))))
    refine litE e1 ?_
    ((conv => whnf); repeat ((first | refine Wo ?_ | refine Lt (by decide) ?_ | refine Lf (by decide) ?_ | refine Cl (by decide) ?_ | refine Cr (by decide) ?_ | refine ⟨_, rfl, ?_⟩ | refine Mi rfl ?_); (conv => whnf)))
    ((conv => whnf); ((repeat ((conv => arg 1; whnf); first | exact Tels.nil | apply Tels.cons | apply Tel.aggs | apply Tel.tups | exact Tel.refl _ | exact Tel.nil1 _ | exact Tel.cap _ _ _ _)); done))
theorem cloneS_runs (l : List ByteArray) (hl : l.length ≤ 8796093022208) : Runs Tryz.prog 91 [rS l none] (rS l none) := by
  refine Runs.wp Go.Proofs.YtjldjhlccedkbaaGreatDoor.Am.hT Go.Proofs.YtjldjhlccedkbaaGreatDoor.Am.hm Tryz.func91 rfl (by decide) ⟨[], [0, 2, 4], 8⟩ ?_; ((conv => whnf); repeat ((first | refine Wo ?_ | refine Lt (by decide) ?_ | refine Lf (by decide) ?_ | refine Cl (by decide) ?_ | refine Cr (by decide) ?_ | refine ⟨_, rfl, ?_⟩ | refine Mi rfl ?_); (conv => whnf)))
  intro b hb
  cases b with
  | true =>
    have h0 : l = [] := by
      cases l with
      | nil => rfl
      | cons a l => cases hb (by simp)
    subst h0
    ((conv => whnf); repeat ((first | refine Wo ?_ | refine Lt (by decide) ?_ | refine Lf (by decide) ?_ | refine Cl (by decide) ?_ | refine Cr (by decide) ?_ | refine ⟨_, rfl, ?_⟩ | refine Mi rfl ?_); (conv => whnf)))
    ((conv => whnf); ((repeat ((conv => arg 1; whnf); first | exact Tels.nil | apply Tels.cons | apply Tel.aggs | apply Tel.tups | exact Tel.refl _ | exact Tel.nil1 _ | exact Tel.cap _ _ _ _)); done))
  | false =>
    clear hb
    ((conv => whnf); repeat ((first | refine Wo ?_ | refine Lt (by decide) ?_ | refine Lf (by decide) ?_ | refine Cl (by decide) ?_ | refine Cr (by decide) ?_ | refine ⟨_, rfl, ?_⟩ | refine Mi rfl ?_); (conv => whnf)))
    refine ⟨by unfold maxLen; omega, by dsimp only; omega, ?_⟩
    ((conv => whnf); repeat ((first | refine Wo ?_ | refine Lt (by decide) ?_ | refine Lf (by decide) ?_ | refine Cl (by decide) ?_ | refine Cr (by decide) ?_ | refine ⟨_, rfl, ?_⟩ | refine Mi rfl ?_); (conv => whnf)))
    (conv => arg 1; whnf)
    exact Tel.eq (dslE rfl (by simp))
theorem vector_runs (l : List ByteArray) (hl : l.length ≤ 8796093022208) : Runs Tryz.prog 43 [rS l none] (vD [(l.length : Int)] l none none) := by
  have h := cloneS_runs l hl
  refine Runs.wp Go.Proofs.YtjldjhlccedkbaaGreatDoor.Am.hT Go.Proofs.YtjldjhlccedkbaaGreatDoor.Am.hm Tryz.func43 rfl (by decide) ⟨[], [0, 2], 9⟩ ?_; ((conv => whnf); repeat ((first | refine Wo ?_ | refine Lt (by decide) ?_ | refine Lf (by decide) ?_ | refine Cl (by decide) ?_ | refine Cr (by decide) ?_ | refine ⟨_, rfl, ?_⟩ | refine Mi rfl ?_); (conv => whnf)))
  ((conv => whnf); (refine Hc.runs h ?_ ?_; (focus ((repeat ((conv => arg 1; whnf); first | exact Tels.nil | apply Tels.cons | apply Tel.aggs | apply Tel.tups | exact Tel.refl _ | exact Tel.nil1 _ | exact Tel.cap _ _ _ _)); done))); ((conv => whnf); repeat ((first | refine Wo ?_ | refine Lt (by decide) ?_ | refine Lf (by decide) ?_ | refine Cl (by decide) ?_ | refine Cr (by decide) ?_ | refine ⟨_, rfl, ?_⟩ | refine Mi rfl ?_); (conv => whnf))))
  ((conv => whnf); ((repeat ((conv => arg 1; whnf); first | exact Tels.nil | apply Tels.cons | apply Tel.aggs | apply Tel.tups | exact Tel.refl _ | exact Tel.nil1 _ | exact Tel.cap _ _ _ _)); done))
end Go.Proofs.YtjldjhlccedkbaaGreatDoor.Am
end
