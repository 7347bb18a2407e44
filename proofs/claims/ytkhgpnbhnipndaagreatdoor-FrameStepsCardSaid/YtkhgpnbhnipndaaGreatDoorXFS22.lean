/- What the law leans on, part 23: declarations of several texts of ours, in their order. -/
import Derived.Test.YtkhgpnbhnipndaaGreatDoorXFS12
import Derived.Test.YtkhgpnbhnipndaaGreatDoorXFS18
import Derived.Test.YtkhgpnbhnipndaaGreatDoorXFS21
section
/- What Go's library tells of numbers' texts; whether a text is a number. -/
namespace Go.Proofs.YtkhgpnbhnipndaaGreatDoor.Nm
open Go.Lib Go.RowKit Go.Proofs.YtkhgpnbhnipndaaGreatDoorW.PrintWords Go.Proofs.YtkhgpnbhnipndaaGreatDoorW.PrintLast Go.Proofs.YtkhgpnbhnipndaaGreatDoor
set_option linter.unusedVariables false
set_option linter.unusedSimpArgs false
theorem idx_all (l : List UInt8) : ∀ (d p : Nat), l.length - p ≤ d → p ≤ l.length → decide (0 ≤ idxFuncFrom Hd.notDigit true (BA l) d p) = !((l.drop p).all digB)
  | 0, p, h0, hp => by
    rw [List.drop_of_length_le (by omega)]
    simp [idxFuncFrom]
  | d + 1, p, h0, hp => by
    unfold idxFuncFrom
    rw [ba_size]
    by_cases hlt : p < l.length
    · rw [if_pos hlt, List.drop_eq_getElem_cons hlt, List.all_cons]
      have hg : (BA l).data.toList.getD p 0 = l[p] := by rw [ba_data]; simp [List.getD, List.getElem?_eq_getElem hlt]
      by_cases h128 : l[p].toNat < 128
      · rw [decode_asc _ _ (by rw [hg]; exact h128), hg]
        simp only
        by_cases hd : digB l[p] = true
        · have := (digB_iff _).mp hd
          rw [show Hd.notDigit l[p].toNat = false by simp [Hd.notDigit]; omega, if_neg (by decide), hd, Bool.true_and]
          exact idx_all l d (p + 1) (by omega) (by omega)
        · rw [show Hd.notDigit l[p].toNat = true by simp [digB] at hd; simp [Hd.notDigit]; omega, if_pos rfl, Bool.eq_false_iff.mpr hd]
          simp
      · have hhi := decode_high (BA l) p (by rw [hg]; omega)
        rw [show Hd.notDigit (Utf8.decode (BA l) p).1 = true by simp [Hd.notDigit]; omega, if_pos rfl, show digB l[p] = false by simp [digB]; omega]
        simp
    · rw [if_neg hlt, List.drop_of_length_le (by omega)]
      simp
theorem contains_ev (l : List UInt8) : Hd.containsFunc_May.f (BA l) = some (!(l.all digB)) := by
  unfold Hd.containsFunc_May.f
  have := idx_all l l.length 0 (by omega) (by omega)
  rw [List.drop_zero] at this
  rw [← this]
  unfold idxFunc
  rw [ba_size]
theorem parse_part (l : List UInt8) (hd : Dig l) (hne : l ≠ []) (hl : l.length ≤ 9) : Hd.parseUint.f (BA l) 10 64 = some ((val l : Int), none) := by
  have hv : val l < 1000000000 := Nat.lt_of_lt_of_le (val_lt l hd) (Nat.le_trans (Nat.pow_le_pow_right (by decide) hl) (by decide))
  unfold Hd.parseUint.f
  rw [if_pos ⟨rfl, rfl, by rw [ba_size]; omega⟩, ba_data]
  have e : parseUintB 64 l = .ok (val l) := by
    unfold parseUintB
    rw [if_neg hne, parseM l hd 0 (by decide), Nat.zero_mul, Nat.zero_add, if_pos (by omega)]
  rw [e]
theorem chunk_ck (m : List Nat) (i : Fin (il m).length) : Hd.chunk (il m) i = ck m i.1 := by
  unfold Hd.chunk ck
  rw [il_getD, Int.toNat_natCast]
  simp only [il_len]
theorem bk_flat (m : List Nat) : (Hd.bk (il m).length (il m).length).flatMap (Hd.chunk (il m)) = tx m := by
  have h1 : (Hd.bk (il m).length (il m).length) = (List.finRange (il m).length).reverse := by
    unfold Hd.bk
    rw [List.take_of_length_le (by simp)]
  rw [h1, ← ck_flat m]
  have h2 : (List.range m.length) = (List.finRange (il m).length).map (fun i => i.1) := by
    apply List.ext_getElem
    · simp [il_len]
    · intro i h1 h2; simp
  rw [h2, ← List.map_reverse, List.flatMap_map]
  congr 1
  funext i
  exact chunk_ck m i
theorem text_ev (n : Nat) (b : Bool) (hl : (mg n).length ≤ 1000000) : Hd.wtext.f (il (mg n)) b = some (if n = 0 then BA [48] else BA ((if b = true then [45] else []) ++ decDigits n)) := by
  unfold Hd.wtext.f
  by_cases h : n = 0
  · subst h
    rw [mg_zero]
    rfl
  · have hne : il (mg n) ≠ [] := fun e => h (mg_nil.mp (by have := congrArg List.length e; rw [il_len] at this; exact List.length_eq_zero_iff.mp (by simpa using this)))
    have hp : ∀ x ∈ il (mg n), 0 ≤ x ∧ x < 1000000000 := fun x hx => by
      simp only [il, List.mem_map] at hx
      obtain ⟨y, hy, rfl⟩ := hx
      have := pt_mg n y hy
      omega
    rw [if_neg hne, if_pos ⟨hp, by rw [il_len]; exact hl⟩, if_neg h, bk_flat, tx_mg n h]
theorem text_sv (n : Nat) (b : Bool) (hb : b = true → n ≠ 0) (hl : (mg n).length ≤ 1000000) : Hd.wtext.f (il (mg n)) b = some (numS (sv n b)) := by
  rw [text_ev n b hl]
  congr 1
  by_cases h : n = 0
  · subst h
    have : b = false := by
      cases b with
      | true => exact absurd rfl (hb rfl)
      | false => rfl
    subst this
    rw [if_pos rfl, show sv 0 false = 0 from rfl, numS_pos (by decide)]
    exact congrArg BA decDigits_zero.symm
  · rw [if_neg h]
    cases b with
    | true =>
      rw [if_pos rfl, show sv n true = -(n : Int) from rfl, numS_neg (by omega), Int.natAbs_neg, Int.natAbs_natCast]
      rfl
    | false =>
      rw [if_neg (by decide), show sv n false = (n : Int) from rfl, numS_pos (by omega), Int.natAbs_natCast]
      rfl
end Go.Proofs.YtkhgpnbhnipndaaGreatDoor.Nm
namespace Go.Proofs.YtkhgpnbhnipndaaGreatDoor.Am
open Go Go.RowKit Go.Proofs.YtkhgpnbhnipndaaGreatDoor.Nm Go.Proofs.YtkhgpnbhnipndaaGreatDoorW.PrintWords Go.Proofs.YtkhgpnbhnipndaaGreatDoor
set_option linter.unusedVariables false
set_option linter.unusedSimpArgs false
set_option maxRecDepth 100000
set_option maxHeartbeats 1000000
abbrev wD (n : Nat) (b : Bool) : D := .agg [rU (mg n) none, bD b]
theorem containsM_runs (l : List UInt8) : Runs Tryz.prog 138 [sD (BA l), .fn 139 []] (bD (!(l.all digB))) := by
  refine ⟨⟨_, Tryz.func138, rfl, by decide⟩, fun w S vs hG hS hl hv => ?_⟩
  obtain ⟨v0, v1, rfl⟩ := two hl
  have d0 := Dr.v_inv (hv 0 _ _ rfl rfl)
  subst d0
  have d1 := hv 1 _ _ rfl rfl
  cases d1 with
  | fn us h1 h2 =>
    obtain rfl := List.eq_nil_of_length_eq_zero h1
    refine (Hd.containsFunc_May.calls (BA l) _ w (contains_ev l)).mono ?_
    rintro e w' ⟨rfl, hb⟩
    exact ⟨_, rfl, hb, .v _⟩
theorem parseU_runs (l : List UInt8) (hd : Dig l) (hne : l ≠ []) (hl9 : l.length ≤ 9) : Runs Tryz.prog 204 [sD (BA l), iD 10, iD 64] (.tup [uD (val l), .v .nilIface]) := by
  refine ⟨⟨_, Tryz.func204, rfl, by decide⟩, fun w S vs hG hS hl hv => ?_⟩
  obtain ⟨v0, v1, v2, rfl⟩ := three hl
  have d0 := Dr.v_inv (hv 0 _ _ rfl rfl)
  have d1 := Dr.v_inv (hv 1 _ _ rfl rfl)
  have d2 := Dr.v_inv (hv 2 _ _ rfl rfl)
  subst d0 d1 d2
  refine (Hd.parseUint.calls (BA l) 10 64 _ _ w (parse_part l hd hne hl9)).mono ?_
  rintro e w' ⟨rfl, hb⟩
  exact ⟨_, rfl, hb, Dr.tup2 (.v _) (.v _)⟩
theorem text_runs (n : Nat) (b : Bool) (hb : b = true → n ≠ 0) (hn : (mg n).length ≤ 1000000) : Runs Tryz.prog 196 [wD n b] (sD (numS (sv n b))) := by
  refine ⟨⟨_, Tryz.func196, rfl, by decide⟩, fun w S vs hG hS hl hv => ?_⟩
  obtain ⟨v0, rfl⟩ := one_ hl
  obtain ⟨a, c, rfl, da, dc⟩ := Dr.agg2 (hv 0 _ _ rfl rfl)
  obtain rfl := Dr.v_inv dc
  obtain ⟨A, k, rfl, hk, hC⟩ := Dr.rU_C da
  refine (Hd.wtext.calls A k _ b _ w hC hk hG (text_sv n b hb hn)).mono ?_
  rintro e w' ⟨rfl, hb⟩
  exact ⟨_, rfl, hb, .v _⟩
theorem of_runs (x : Int) (h1 : -9223372036854775808 ≤ x) (h2 : x ≤ 9223372036854775807) : Runs Tryz.prog 80 [iD x] (sD (numS x)) := by
  refine ⟨⟨_, Tryz.func80, rfl, by decide⟩, fun w S vs hG hS hl hv => ?_⟩
  obtain ⟨v0, rfl⟩ := one_ hl
  obtain rfl := Dr.v_inv (hv 0 _ _ rfl rfl)
  refine (Hd.numOf.calls x _ w hG (by unfold Hd.numOf.f; rw [if_pos ⟨h1, h2⟩])).mono ?_
  rintro e w' ⟨rfl, hb⟩
  exact ⟨_, rfl, hb, .v _⟩
def hyp : List UInt8 → Bool
  | c :: _ => c == 45
  | [] => false
theorem hasP_runs (l : List UInt8) : Runs Tryz.prog 217 [sD (BA l), sD ⟨#[45]⟩] (bD (hyp l)) := by
  cases l with
  | nil =>
    refine Runs.wp Am.hT Am.hm Tryz.func217 rfl (by decide) ⟨[], [0, 1, 4], 18⟩ ?_; ((conv => whnf); repeat (refine Gq ?_; (conv => whnf)))
    exact TeA
  | cons c r =>
    have hs : ((BA (c :: r)).size : Int) ≥ ((⟨#[45]⟩ : ByteArray).size : Int) := by rw [ba_size]; show (1 : Int) ≤ _; simp; omega
    have he : (((BA (c :: r)).extract (Int.toNat 0) (Int.toNat ((⟨#[45]⟩ : ByteArray).size : Int))).toList == (⟨#[45]⟩ : ByteArray).toList) = (c == 45) := by
      have h1 : ((BA (c :: r)).extract (Int.toNat 0) (Int.toNat ((⟨#[45]⟩ : ByteArray).size : Int))).toList = [c] := extract0 c r
      rw [h1, show (⟨#[45]⟩ : ByteArray).toList = [45] from ba_list [45]]
      simp
    refine Runs.wp Am.hT Am.hm Tryz.func217 rfl (by decide) ⟨[], [0, 1, 4], 18⟩ ?_; ((conv => whnf); repeat (refine Gq ?_; (conv => whnf)))
    refine Lt (by simpa using hs) ?_
    ((conv => whnf); repeat ((first | refine Wo ?_ | refine Lt (by decide) ?_ | refine Lf (by decide) ?_ | refine Cl (by decide) ?_ | refine Cr (by decide) ?_ | refine ⟨_, rfl, ?_⟩ | refine Mi rfl ?_ | (refine And.intro ArA ?_)); (conv => whnf)))
    refine litE he ?_
    ((conv => whnf); repeat (refine Gq ?_; (conv => whnf)))
    exact TeA
theorem trimP_runs (l : List UInt8) : Runs Tryz.prog 137 [sD (BA l), sD ⟨#[45]⟩] (sD (BA (body l))) := by
  have h : Runs Tryz.prog 191 [sD (BA l), sD ⟨#[45]⟩] (sD (BA (body l))) := by
    have h0 := hasP_runs l
    cases l with
    | nil =>
      refine Runs.wp Am.hT Am.hm Tryz.func191 rfl (by decide) ⟨[], [0, 1, 4, 7], 13⟩ ?_; ((conv => whnf); repeat (refine Gq ?_; (conv => whnf)))
      ((conv => whnf); (refine HfA h0 ?_); ((conv => whnf); repeat (refine Gq ?_; (conv => whnf))))
      exact TeA
    | cons c r =>
      rw [show hyp (c :: r) = (c == 45) from rfl] at h0
      by_cases hc : c = 45
      · subst hc
        have hs : ((⟨#[45]⟩ : ByteArray).size : Int) ≤ ((BA (45 :: r)).size : Int) := by rw [ba_size (45 :: r), List.length_cons]; show ((1 : Nat) : Int) ≤ _; omega
        have he : (BA (45 :: r)).extract (Int.toNat ((⟨#[45]⟩ : ByteArray).size : Int)) (Int.toNat ((BA (45 :: r)).size : Int)) = BA r := ba_extract1 45 r
        rw [show body (45 :: r) = r by rw [body_cons, if_pos (by decide)]]
        refine Runs.wp Am.hT Am.hm Tryz.func191 rfl (by decide) ⟨[], [0, 1, 4, 7], 13⟩ ?_; ((conv => whnf); repeat (refine Gq ?_; (conv => whnf)))
        ((conv => whnf); (refine HfA h0 ?_); ((conv => whnf); repeat (refine Gq ?_; (conv => whnf))))
        ((conv => whnf); repeat ((first | refine Wo ?_ | refine Lt (by decide) ?_ | refine Lf (by decide) ?_ | refine Cl (by decide) ?_ | refine Cr (by decide) ?_ | refine ⟨_, rfl, ?_⟩ | refine Mi rfl ?_ | (refine And.intro ArA ?_)); (conv => whnf)))
        rw [he]
        exact TeA
      · rw [show (c == 45) = false by simpa using hc] at h0
        rw [show body (c :: r) = c :: r by rw [body_cons, if_neg (fun e : c.toNat = 45 => hc (UInt8.toNat_inj.mp e))]]
        refine Runs.wp Am.hT Am.hm Tryz.func191 rfl (by decide) ⟨[], [0, 1, 4, 7], 13⟩ ?_; ((conv => whnf); repeat (refine Gq ?_; (conv => whnf)))
        ((conv => whnf); (refine HfA h0 ?_); ((conv => whnf); repeat (refine Gq ?_; (conv => whnf))))
        exact TeA
  refine Runs.wp Am.hT Am.hm Tryz.func137 rfl (by decide) ⟨[], [0, 1, 4], 8⟩ ?_; ((conv => whnf); repeat (refine Gq ?_; (conv => whnf)))
  ((conv => whnf); (refine HfA h ?_); ((conv => whnf); repeat (refine Gq ?_; (conv => whnf))))
  exact TeA
theorem u8E (c : UInt8) (n : Nat) (hn : n < 256) : (((c.toNat : Nat) : Int) == (n : Int)) = (c.toNat == n) := by
  by_cases h : c.toNat = n
  · subst h; simp
  · rw [beq_eq_false_iff_ne.mpr h]
    exact beq_eq_false_iff_ne.mpr (by omega)
theorem may_runs (l : List UInt8) : Runs Tryz.prog 74 [sD (BA l)] (bD (mayL l)) := by
  have ht := trimP_runs l
  have hc := containsM_runs (body l)
  have ez : (!((BA l).toList == (⟨#[48]⟩ : ByteArray).toList)) = (l != [48]) := by rw [ba_list, show (⟨#[48]⟩ : ByteArray).toList = [48] from ba_list [48]]; rfl
  unfold mayL
  generalize hf : body l = f at *
  have hs : ((BA f).size : Int) = (f.length : Int) := by rw [ba_size]
  cases f with
  | nil =>
    have hl : l ≠ [48] := fun e => by subst e; exact absurd hf (by decide)
    rw [show (l == [48]) = false from beq_eq_false_iff_ne.mpr hl, Bool.false_or, decide_eq_false (show ¬ 1 ≤ ([] : List UInt8).length by decide), Bool.false_and, Bool.false_and, Bool.false_and]
    refine Runs.wp Am.hT Am.hm Tryz.func74 rfl (by decide) ⟨[], [0, 2, 3, 22], 26⟩ ?_; ((conv => whnf); repeat (refine Gq ?_; (conv => whnf)))
    ((conv => whnf); (refine HfA ht ?_); ((conv => whnf); repeat (refine Gq ?_; (conv => whnf))))
    exact TeA
  | cons c r =>
    have e1 : decide (((BA (c :: r)).size : Int) < 1) = false := by rw [decide_eq_false_iff_not]; simp at hs; omega
    rw [decide_eq_true (show 1 ≤ (c :: r).length by simp), Bool.true_and]
    by_cases h2 : (c :: r).length ≤ 100
    · have e2 : decide (((BA (c :: r)).size : Int) > 100) = false := by rw [decide_eq_false_iff_not]; omega
      have hb0 : 0 < ((BA (c :: r)).size : Int) := by rw [hs]; simp
      rw [decide_eq_true h2, Bool.true_and, List.headD_cons]
      by_cases h48 : c.toNat = 48
      · have e3 : (((c.toNat : Nat) : Int) == 48) = true := by rw [h48]; rfl
        by_cases hl : l = [48]
        · rw [show (l == [48]) = true by rw [hl]; rfl, Bool.true_or]
          have hl2 : (l != [48]) = false := by rw [hl]; rfl
          have hr0 : r = [] := by
            rw [hl, show body [48] = [48] by decide] at hf
            simp at hf
            exact hf.2
          have hall : (!(c :: r).all digB) = false := by
            have : c = 48 := UInt8.toNat_inj.mp h48
            rw [hr0, this]
            decide
          rw [hall] at hc
          refine Runs.wp Am.hT Am.hm Tryz.func74 rfl (by decide) ⟨[], [0, 2, 3, 22], 26⟩ ?_; ((conv => whnf); repeat (refine Gq ?_; (conv => whnf)))
          ((conv => whnf); (refine HfA ht ?_); ((conv => whnf); repeat (refine Gq ?_; (conv => whnf))))
          refine Lf e1 ?_
          ((conv => whnf); repeat (refine Gq ?_; (conv => whnf)))
          refine Lf e2 ?_
          ((conv => whnf); repeat ((first | refine Wo ?_ | refine Lt (by decide) ?_ | refine Lf (by decide) ?_ | refine Cl (by decide) ?_ | refine Cr (by decide) ?_ | refine ⟨_, rfl, ?_⟩ | refine Mi rfl ?_ | (refine And.intro ArA ?_)); (conv => whnf)))
          refine Lt e3 ?_
          ((conv => whnf); repeat (refine Gq ?_; (conv => whnf)))
          refine litE (ez.trans hl2) ?_
          ((conv => whnf); repeat (refine Gq ?_; (conv => whnf)))
          ((conv => whnf); (refine HfA hc ?_); ((conv => whnf); repeat (refine Gq ?_; (conv => whnf))))
          exact TeA
        · rw [show (l == [48]) = false from beq_eq_false_iff_ne.mpr hl, Bool.false_or, h48, show ((48 : Nat) != 48) = false from rfl, Bool.false_and]
          have hl2 : (l != [48]) = true := by simpa using hl
          refine Runs.wp Am.hT Am.hm Tryz.func74 rfl (by decide) ⟨[], [0, 2, 3, 22], 26⟩ ?_; ((conv => whnf); repeat (refine Gq ?_; (conv => whnf)))
          ((conv => whnf); (refine HfA ht ?_); ((conv => whnf); repeat (refine Gq ?_; (conv => whnf))))
          refine Lf e1 ?_
          ((conv => whnf); repeat (refine Gq ?_; (conv => whnf)))
          refine Lf e2 ?_
          ((conv => whnf); repeat ((first | refine Wo ?_ | refine Lt (by decide) ?_ | refine Lf (by decide) ?_ | refine Cl (by decide) ?_ | refine Cr (by decide) ?_ | refine ⟨_, rfl, ?_⟩ | refine Mi rfl ?_ | (refine And.intro ArA ?_)); (conv => whnf)))
          refine Lt e3 ?_
          ((conv => whnf); repeat (refine Gq ?_; (conv => whnf)))
          refine litE (ez.trans hl2) ?_
          ((conv => whnf); repeat (refine Gq ?_; (conv => whnf)))
          exact TeA
      · have e3 : (((c.toNat : Nat) : Int) == 48) = false := beq_eq_false_iff_ne.mpr (by omega)
        have hl : l ≠ [48] := fun e => by subst e; rw [show body [48] = [48] by decide] at hf; simp at hf; exact h48 (by rw [← hf.1]; rfl)
        rw [show (l == [48]) = false from beq_eq_false_iff_ne.mpr hl, Bool.false_or, show (c.toNat != 48) = true by simpa using h48, Bool.true_and]
        cases hall : (c :: r).all digB with
        | true =>
          rw [hall] at hc
          refine Runs.wp Am.hT Am.hm Tryz.func74 rfl (by decide) ⟨[], [0, 2, 3, 22], 26⟩ ?_; ((conv => whnf); repeat (refine Gq ?_; (conv => whnf)))
          ((conv => whnf); (refine HfA ht ?_); ((conv => whnf); repeat (refine Gq ?_; (conv => whnf))))
          refine Lf e1 ?_
          ((conv => whnf); repeat (refine Gq ?_; (conv => whnf)))
          refine Lf e2 ?_
          ((conv => whnf); repeat ((first | refine Wo ?_ | refine Lt (by decide) ?_ | refine Lf (by decide) ?_ | refine Cl (by decide) ?_ | refine Cr (by decide) ?_ | refine ⟨_, rfl, ?_⟩ | refine Mi rfl ?_ | (refine And.intro ArA ?_)); (conv => whnf)))
          refine Lf e3 ?_
          ((conv => whnf); repeat (refine Gq ?_; (conv => whnf)))
          ((conv => whnf); (refine HfA hc ?_); ((conv => whnf); repeat (refine Gq ?_; (conv => whnf))))
          exact TeA
        | false =>
          rw [hall] at hc
          refine Runs.wp Am.hT Am.hm Tryz.func74 rfl (by decide) ⟨[], [0, 2, 3, 22], 26⟩ ?_; ((conv => whnf); repeat (refine Gq ?_; (conv => whnf)))
          ((conv => whnf); (refine HfA ht ?_); ((conv => whnf); repeat (refine Gq ?_; (conv => whnf))))
          refine Lf e1 ?_
          ((conv => whnf); repeat (refine Gq ?_; (conv => whnf)))
          refine Lf e2 ?_
          ((conv => whnf); repeat ((first | refine Wo ?_ | refine Lt (by decide) ?_ | refine Lf (by decide) ?_ | refine Cl (by decide) ?_ | refine Cr (by decide) ?_ | refine ⟨_, rfl, ?_⟩ | refine Mi rfl ?_ | (refine And.intro ArA ?_)); (conv => whnf)))
          refine Lf e3 ?_
          ((conv => whnf); repeat (refine Gq ?_; (conv => whnf)))
          ((conv => whnf); (refine HfA hc ?_); ((conv => whnf); repeat (refine Gq ?_; (conv => whnf))))
          exact TeA
    · have hl : l ≠ [48] := fun e => by subst e; rw [show body [48] = [48] by decide] at hf; rw [← hf] at h2; exact absurd (by decide) h2
      have e2 : decide (((BA (c :: r)).size : Int) > 100) = true := by rw [decide_eq_true_eq]; omega
      rw [show (l == [48]) = false from beq_eq_false_iff_ne.mpr hl, Bool.false_or, decide_eq_false h2, Bool.false_and, Bool.false_and]
      refine Runs.wp Am.hT Am.hm Tryz.func74 rfl (by decide) ⟨[], [0, 2, 3, 22], 26⟩ ?_; ((conv => whnf); repeat (refine Gq ?_; (conv => whnf)))
      ((conv => whnf); (refine HfA ht ?_); ((conv => whnf); repeat (refine Gq ?_; (conv => whnf))))
      refine Lf e1 ?_
      ((conv => whnf); repeat (refine Gq ?_; (conv => whnf)))
      refine Lt e2 ?_
      ((conv => whnf); repeat (refine Gq ?_; (conv => whnf)))
      exact TeA
end Go.Proofs.YtkhgpnbhnipndaaGreatDoor.Am
end
section
/- The document's numbers: signs, figures. -/
namespace Go.Proofs.YtkhgpnbhnipndaaGreatDoor.Am
open Go Go.Lib Go.RowKit Go.Proofs.YtkhgpnbhnipndaaGreatDoor.Nm Go.Proofs.YtkhgpnbhnipndaaGreatDoorW.PrintWords Go.Proofs.YtkhgpnbhnipndaaGreatDoor
set_option linter.unusedVariables false
set_option linter.unusedSimpArgs false
set_option maxRecDepth 100000
set_option maxHeartbeats 8000000
theorem ba_ix {l : List UInt8} {i : Nat} {j : Int} (h : i < l.length) (e : j.toNat = i) : (BA l)[j.toNat]? = some l[i] := by
  rw [e]
  show (BA l)[i]? = some l[i]
  rw [getElem?_pos (BA l) i (by rw [ba_size]; exact h)]
  rfl
theorem telZ {k : IntKind} {x y : Int} (h : x = y) : Tel (.v (.int k x)) (.v (.int k y)) := h ▸ .refl _
theorem telS {x y : ByteArray} (h : x = y) : Tel (sD x) (sD y) := h ▸ .refl _
theorem stE {x y : ByteArray} (h : x = y) : V.d (sD x) = V.d (sD y) := h ▸ rfl
theorem emp_l (l : List UInt8) : ((BA l).toList == ByteArray.toList ⟨#[]⟩) = decide (l = []) := by
  rw [ba_list, show ByteArray.toList ⟨#[]⟩ = ([] : List UInt8) from ba_list []]
  cases l <;> rfl
theorem u8b (c d : UInt8) : (((c.toNat : Nat) : Int) == (d.toNat : Int)) = (c == d) := by
  by_cases h : c = d
  · subst h; simp
  · rw [beq_eq_false_iff_ne.mpr h]
    exact beq_eq_false_iff_ne.mpr fun e => h (UInt8.toNat_inj.mp (by simpa using Int.ofNat.inj e))
theorem rlow_runs (l : List UInt8) : Runs Tryz.prog 205 [sD (BA l)] (bD (hyp l)) := by
  have he := emp_l l
  cases l with
  | nil =>
    have t1 : (!((BA []).toList == ByteArray.toList ⟨#[]⟩)) = false := by rw [he]; rfl
    refine Runs.wp Am.hT Am.hm Tryz.func205 rfl (by decide) ⟨[], [0, 2], 10⟩ ?_; ((conv => whnf); repeat (refine Gq ?_; (conv => whnf)))
    refine litE t1 ?_
    ((conv => whnf); repeat (refine Gq ?_; (conv => whnf)))
    exact TeA
  | cons c r =>
    have t1 : (!((BA (c :: r)).toList == ByteArray.toList ⟨#[]⟩)) = true := by rw [he]; rfl
    have hc : (((c.toNat : Nat) : Int) == 45) = (c == 45) := u8b c 45
    refine Runs.wp Am.hT Am.hm Tryz.func205 rfl (by decide) ⟨[], [0, 2], 10⟩ ?_; ((conv => whnf); repeat (refine Gq ?_; (conv => whnf)))
    refine litE t1 ?_
    ((conv => whnf); repeat (refine Gq ?_; (conv => whnf)))
    refine ⟨by decide, by rw [ba_size]; simp, _, ba_ix (i := 0) (by simp) rfl, ?_⟩
    ((conv => whnf); repeat (refine Gq ?_; (conv => whnf)))
    refine litE hc ?_
    ((conv => whnf); repeat (refine Gq ?_; (conv => whnf)))
    exact TeA
theorem rsize_runs (l : List UInt8) : Runs Tryz.prog 206 [sD (BA l)] (sD (BA (body l))) := by
  have h := rlow_runs l
  cases l with
  | nil =>
    rw [show hyp [] = false from rfl] at h
    refine Runs.wp Am.hT Am.hm Tryz.func206 rfl (by decide) ⟨[], [0, 2, 4], 8⟩ ?_; ((conv => whnf); repeat (refine Gq ?_; (conv => whnf)))
    ((conv => whnf); (refine HfA h ?_); ((conv => whnf); repeat (refine Gq ?_; (conv => whnf))))
    exact TeA
  | cons c r =>
    rw [show hyp (c :: r) = (c == 45) from rfl] at h
    cases hc : c == 45 with
    | true =>
      rw [hc] at h
      have e : body (c :: r) = r := by rw [body_cons, if_pos (by rw [show c = 45 by simpa using hc]; rfl)]
      rw [e]
      refine Runs.wp Am.hT Am.hm Tryz.func206 rfl (by decide) ⟨[], [0, 2, 4], 8⟩ ?_; ((conv => whnf); repeat (refine Gq ?_; (conv => whnf)))
      ((conv => whnf); (refine HfA h ?_); ((conv => whnf); repeat (refine Gq ?_; (conv => whnf))))
      refine ⟨by decide, by rw [ba_size]; simp; omega, by omega, ?_⟩
      ((conv => whnf); repeat (refine Gq ?_; (conv => whnf)))
      ((conv => whnf); ((repeat ((conv => arg 1; whnf); first | exact Tels.nil | apply Tels.cons | apply Tel.aggs | apply Tel.tups | exact Tel.refl _ | exact Tel.nil1 _ | exact Tel.cap _ _ _ _ | exact telS (ba_extract1 c r))); done))
    | false =>
      rw [hc] at h
      have e : body (c :: r) = c :: r := by rw [body_cons, if_neg (fun e => by rw [show c = 45 from UInt8.toNat_inj.mp e] at hc; cases hc)]
      rw [e]
      refine Runs.wp Am.hT Am.hm Tryz.func206 rfl (by decide) ⟨[], [0, 2, 4], 8⟩ ?_; ((conv => whnf); repeat (refine Gq ?_; (conv => whnf)))
      ((conv => whnf); (refine HfA h ?_); ((conv => whnf); repeat (refine Gq ?_; (conv => whnf))))
      exact TeA
theorem rbare_runs (l : List UInt8) (hd : Dig l) (hl : l.length ≤ 1000000) : Runs Tryz.prog 211 [sD (BA l)] (sD (BA (decDigits (val l)))) := by
  refine Runs.wp Am.hT Am.hm Tryz.func211 rfl (by decide) ⟨[], [0, 2, 10, 14], 16⟩ ?_; ((conv => whnf); repeat (refine Gq ?_; (conv => whnf)))
  refine loop_ind (fun k (r : List UInt8) => r.length < k ∧ Dig r ∧ val r = val l) (fun r => { t := pin [(0, .d (sD (BA r)))], N := 16, h := hpin [], n := 0, lo := 0 }) (fun r h => by omega) ?_ (l.length + 1) l ⟨by omega, hd, rfl⟩ _ ?_
  · rintro k r R ih ⟨hk, hr, hv⟩
    have hz : ((BA r).size : Int) = (r.length : Int) := by rw [ba_size]
    have he := emp_l r
    rw [← hv]
    match r, hr with
    | [], hr =>
      have t1 : decide (((BA []).size : Int) > 1) = false := rfl
      have t2 : ((BA []).toList == ByteArray.toList ⟨#[]⟩) = true := by rw [he]; rfl
      have e : decDigits (val []) = [48] := decDigits_zero
      rw [e]
      ((conv => whnf); repeat (refine Gq ?_; (conv => whnf)))
      refine litE t2 ?_
      ((conv => whnf); repeat (refine Gq ?_; (conv => whnf)))
      exact TeA
    | [c], hr =>
      have t1 : decide (((BA [c]).size : Int) > 1) = false := rfl
      have t2 : ((BA [c]).toList == ByteArray.toList ⟨#[]⟩) = false := by rw [he]; rfl
      have hc := hr c (by simp)
      have e : decDigits (val [c]) = [c] := by
        have h1 : val [c] = c.toNat - 48 := by simp [val]
        rw [h1, decDigits_one (by omega)]
        congr 1
        have := ofNat_toNat c
        rw [show 48 + (c.toNat - 48) = c.toNat by omega]
        exact this
      rw [e]
      ((conv => whnf); repeat (refine Gq ?_; (conv => whnf)))
      refine litE t1 ?_
      ((conv => whnf); repeat (refine Gq ?_; (conv => whnf)))
      refine litE t2 ?_
      ((conv => whnf); repeat (refine Gq ?_; (conv => whnf)))
      exact TeA
    | c :: d :: r, hr =>
      have t1 : decide (((BA (c :: d :: r)).size : Int) > 1) = true := by rw [decide_eq_true_iff, hz]; simp; omega
      have t2 : ((BA (c :: d :: r)).toList == ByteArray.toList ⟨#[]⟩) = false := by rw [he]; rfl
      have hc : (((c.toNat : Nat) : Int) == 48) = (c == 48) := u8b c 48
      cases h48 : c == 48 with
      | true =>
        rw [h48] at hc
        ((conv => whnf); repeat (refine Gq ?_; (conv => whnf)))
        refine litE t1 ?_
        ((conv => whnf); repeat (refine Gq ?_; (conv => whnf)))
        refine ⟨by decide, by rw [ba_size]; simp; omega, _, ba_ix (i := 0) (by simp) rfl, ?_⟩
        ((conv => whnf); repeat (refine Gq ?_; (conv => whnf)))
        refine litE hc ?_
        ((conv => whnf); repeat (refine Gq ?_; (conv => whnf)))
        refine ⟨by decide, by rw [ba_size]; simp; omega, by omega, ?_⟩
        ((conv => whnf); repeat (refine Gq ?_; (conv => whnf)))
        refine ih (d :: r) _ ⟨by simp at hk ⊢; omega, fun x hx => hr x (List.mem_cons_of_mem _ hx), ?_⟩ ?_
        · rw [← hv, val_cons c, show c = 48 by simpa using h48]
          simp
        · (refine Wk.to _ _ ?_ ?_ <;> (repeat' first | exact trivial | rfl | (refine And.intro ?_ ?_)))
          exact stE (ba_extract1 c (d :: r))
      | false =>
        rw [h48] at hc
        have e : decDigits (val (c :: d :: r)) = c :: d :: r := canon _ hr (fun x y e => by
          cases e
          intro e
          rw [show c = 48 from UInt8.toNat_inj.mp e] at h48
          cases h48) (by simp)
        rw [e]
        ((conv => whnf); repeat (refine Gq ?_; (conv => whnf)))
        refine litE t1 ?_
        ((conv => whnf); repeat (refine Gq ?_; (conv => whnf)))
        refine ⟨by decide, by rw [ba_size]; simp; omega, _, ba_ix (i := 0) (by simp) rfl, ?_⟩
        ((conv => whnf); repeat (refine Gq ?_; (conv => whnf)))
        refine litE hc ?_
        ((conv => whnf); repeat (refine Gq ?_; (conv => whnf)))
        refine litE t2 ?_
        ((conv => whnf); repeat (refine Gq ?_; (conv => whnf)))
        exact TeA
  · (refine Wk.to _ _ ?_ ?_ <;> (repeat' first | exact trivial | rfl | (refine And.intro ?_ ?_)))
end Go.Proofs.YtkhgpnbhnipndaaGreatDoor.Am
end
section
/- The document's numbers: sizes. -/
namespace Go.Proofs.YtkhgpnbhnipndaaGreatDoor.Am
open Go Go.Lib Go.RowKit Go.Proofs.YtkhgpnbhnipndaaGreatDoor.Nm Go.Proofs.YtkhgpnbhnipndaaGreatDoorW.PrintWords Go.Proofs.YtkhgpnbhnipndaaGreatDoor
set_option linter.unusedVariables false
set_option linter.unusedSimpArgs false
set_option maxRecDepth 100000
set_option maxHeartbeats 8000000
theorem u8w {x : Int} (h1 : 0 ≤ x) (h2 : x < 256) : IntKind.u8.wrap x = x := by
  show x % 256 = x
  omega
theorem fig_i (c : UInt8) (hc : 48 ≤ c.toNat ∧ c.toNat ≤ 57) : IntKind.i64.wrap (IntKind.u8.wrap (((c.toNat : Nat) : Int) - 48)) = ((c.toNat - 48 : Nat) : Int) := by
  rw [u8w (by omega) (by omega), i64n (n := c.toNat - 48) (by omega) (by omega)]
theorem cat_ok (l m : List UInt8) (h : l.length + m.length ≤ 9223372036854775807) : (((BA l).size + (BA m).size : Nat) : Int) ≤ IntKind.i64.max := by
  show _ ≤ (9223372036854775807 : Int)
  rw [ba_size, ba_size]
  omega
theorem dec_eq0 (n : Nat) : ((BA (decDigits n)).toList == ByteArray.toList ⟨#[48]⟩) = decide (n = 0) := by
  rw [ba_list, show ByteArray.toList ⟨#[48]⟩ = ([48] : List UInt8) from ba_list [48], Bool.eq_iff_iff, beq_iff_eq, decide_eq_true_iff]
  exact dec_zero_iff n
theorem rsigned_runs (l : List UInt8) (b : Bool) (hd : Dig l) (hl : l.length ≤ 1000000) : Runs Tryz.prog 207 [sD (BA l), bD b] (sD (numS (sv (val l) b))) := by
  have h := rbare_runs l hd hl
  have hN : (decDigits (val l)).length ≤ l.length + 1 := len_le _ _ (by omega) (Nat.lt_of_lt_of_le (val_lt l hd) (Nat.pow_le_pow_right (by decide) (by omega)))
  generalize val l = n at *
  cases b with
  | false =>
    rw [show sv n false = (n : Int) from rfl, numS_pos (by omega), Int.natAbs_natCast]
    refine Runs.wp Am.hT Am.hm Tryz.func207 rfl (by decide) ⟨[], [0, 1, 4, 10], 16⟩ ?_; ((conv => whnf); repeat (refine Gq ?_; (conv => whnf)))
    ((conv => whnf); (refine HfA h ?_); ((conv => whnf); repeat (refine Gq ?_; (conv => whnf))))
    exact TeA
  | true =>
    by_cases h0 : n = 0
    · have t1 : (!((BA (decDigits n)).toList == ByteArray.toList ⟨#[48]⟩)) = false := by rw [dec_eq0, decide_eq_true h0]; rfl
      rw [show sv n true = (n : Int) by unfold sv; rw [if_pos rfl]; omega, numS_pos (by omega), Int.natAbs_natCast]
      refine Runs.wp Am.hT Am.hm Tryz.func207 rfl (by decide) ⟨[], [0, 1, 4, 10], 16⟩ ?_; ((conv => whnf); repeat (refine Gq ?_; (conv => whnf)))
      ((conv => whnf); (refine HfA h ?_); ((conv => whnf); repeat (refine Gq ?_; (conv => whnf))))
      refine litE t1 ?_
      ((conv => whnf); repeat (refine Gq ?_; (conv => whnf)))
      ((conv => whnf); (refine HfA h ?_); ((conv => whnf); repeat (refine Gq ?_; (conv => whnf))))
      exact TeA
    · have t1 : (!((BA (decDigits n)).toList == ByteArray.toList ⟨#[48]⟩)) = true := by rw [dec_eq0, decide_eq_false h0]; rfl
      rw [show sv n true = -(n : Int) by unfold sv; rw [if_pos rfl], numS_neg (by omega), Int.natAbs_neg, Int.natAbs_natCast]
      refine Runs.wp Am.hT Am.hm Tryz.func207 rfl (by decide) ⟨[], [0, 1, 4, 10], 16⟩ ?_; ((conv => whnf); repeat (refine Gq ?_; (conv => whnf)))
      ((conv => whnf); (refine HfA h ?_); ((conv => whnf); repeat (refine Gq ?_; (conv => whnf))))
      refine litE t1 ?_
      ((conv => whnf); repeat (refine Gq ?_; (conv => whnf)))
      ((conv => whnf); (refine HfA h ?_); ((conv => whnf); repeat (refine Gq ?_; (conv => whnf))))
      have hL : (((⟨#[45]⟩ : ByteArray).size + (BA (decDigits n)).size : Nat) : Int) ≤ IntKind.i64.max := by
        show _ ≤ (9223372036854775807 : Int)
        rw [show (⟨#[45]⟩ : ByteArray) = BA [45] from rfl, ba_size, ba_size, List.length_singleton]
        omega
      refine ⟨hL, ?_⟩
      ((conv => whnf); repeat (refine Gq ?_; (conv => whnf)))
      ((conv => whnf); ((repeat ((conv => arg 1; whnf); first | exact Tels.nil | apply Tels.cons | apply Tel.aggs | apply Tel.tups | exact Tel.refl _ | exact Tel.nil1 _ | exact Tel.cap _ _ _ _ | exact telS (ba_append [45] (decDigits n)))); done))
theorem rdigit_runs (l : List UInt8) (i : Nat) (hd : Dig l) (hl : l.length ≤ 1000000) (hi : i ≤ 100000000) : Runs Tryz.prog 237 [sD (BA l), iD i] (iD ((val l / 10 ^ i % 10 : Nat))) := by
  have hz : ((BA l).size : Int) = (l.length : Int) := by rw [ba_size]
  by_cases h : i < l.length
  · have t1 : decide ((i : Int) ≥ ((BA l).size : Int)) = false := by rw [decide_eq_false_iff_not, hz]; omega
    have e1 : IntKind.i64.wrap (IntKind.i64.wrap (((BA l).size : Int) - 1) - i) = ((l.length - 1 - i : Nat) : Int) := by
      rw [hz, i64w (x := ((l.length : Nat) : Int) - 1) (by omega) (by omega), i64n (n := l.length - 1 - i) (by omega) (by omega)]
    have hg := dg_val l hd i h
    rw [List.getD_eq_getElem?_getD, List.getElem?_eq_getElem (by omega), Option.getD_some] at hg
    have hc := hd (l[l.length - 1 - i]'(by omega)) (List.getElem_mem _)
    have hx := ba_ix (l := l) (i := l.length - 1 - i) (j := IntKind.i64.wrap (IntKind.i64.wrap (((BA l).size : Int) - 1) - i)) (by omega) (by rw [e1, Int.toNat_natCast])
    have e2 : IntKind.i64.wrap (IntKind.u8.wrap ((((l[l.length - 1 - i]'(by omega)).toNat : Nat) : Int) - 48)) = ((val l / 10 ^ i % 10 : Nat) : Int) := by
      rw [← hg]; exact fig_i _ hc
    refine Runs.wp Am.hT Am.hm Tryz.func237 rfl (by decide) ⟨[], [0, 1, 4, 8], 18⟩ ?_; ((conv => whnf); repeat (refine Gq ?_; (conv => whnf)))
    refine litE t1 ?_
    ((conv => whnf); repeat (refine Gq ?_; (conv => whnf)))
    refine ⟨by rw [e1]; omega, by rw [e1, hz]; omega, _, hx, ?_⟩
    ((conv => whnf); repeat (refine Gq ?_; (conv => whnf)))
    exact telZ e2
  · have t1 : decide ((i : Int) ≥ ((BA l).size : Int)) = true := by rw [decide_eq_true_iff, hz]; omega
    have e : val l / 10 ^ i % 10 = 0 := by
      rw [Nat.div_eq_of_lt (Nat.lt_of_lt_of_le (val_lt l hd) (Nat.pow_le_pow_right (by decide) (by omega)))]
    rw [e]
    refine Runs.wp Am.hT Am.hm Tryz.func237 rfl (by decide) ⟨[], [0, 1, 4, 8], 18⟩ ?_; ((conv => whnf); repeat (refine Gq ?_; (conv => whnf)))
    refine litE t1 ?_
    ((conv => whnf); repeat (refine Gq ?_; (conv => whnf)))
    exact TeA
theorem tdiv10 (n : Nat) : (n : Int).tdiv 10 = ((n / 10 : Nat) : Int) := rfl
theorem tmod10 (n : Nat) : (n : Int).tmod 10 = ((n % 10 : Nat) : Int) := rfl
theorem carry10 (x B : Nat) : x % 10 * B + x / 10 * (B * 10) = B * x := by
  rw [Nat.mul_comm (x % 10) B, Nat.mul_comm B 10, ← Nat.mul_assoc, Nat.mul_comm (x / 10 * 10) B, ← Nat.mul_add, Nat.mul_comm (x / 10), Nat.mod_add_div]
theorem rplus_runs (a b : List UInt8) (ha : Dig a) (hb : Dig b) (hla : a.length ≤ 100000) (hlb : b.length ≤ 100000) : Runs Tryz.prog 208 [sD (BA a), sD (BA b)] (sD (BA (decDigits (val a + val b)))) := by
  obtain ⟨M, hM⟩ : ∃ M, M = max a.length b.length := ⟨_, rfl⟩
  have hza : ((BA a).size : Int) = (a.length : Int) := by rw [ba_size]
  have hzb : ((BA b).size : Int) = (b.length : Int) := by rw [ba_size]
  have eM : (if ((BA a).size : Int) < (BA b).size then ((BA b).size : Int) else (BA a).size) = (M : Int) := by rw [hza, hzb]; split <;> omega
  refine Runs.wp Am.hT Am.hm Tryz.func208 rfl (by decide) ⟨[], [0, 1, 4, 5, 6, 7, 8, 15], 39⟩ ?_; ((conv => whnf); repeat (refine Gq ?_; (conv => whnf)))
  refine loop_ind (fun k (x : List UInt8 × Nat) => k + x.1.length = M + 2 ∧ x.1.length ≤ M + 1 ∧ Dig x.1 ∧ x.2 ≤ 1 ∧ val x.1 + x.2 * 10 ^ x.1.length = val a % 10 ^ x.1.length + val b % 10 ^ x.1.length)
    (fun x => { t := pin [(0, .d (sD (BA a))), (1, .d (sD (BA b))), (5, .d (sD (BA x.1))), (6, .d (iD x.2)), (7, .d (iD x.1.length))], N := 39, h := hpin [], n := 0, lo := 0 }) (fun x h => by omega) ?_ (M + 2) ([], 0) ⟨by simp, by simp, fun c h => (by cases h), by simp, (by simp [val, Nat.mod_one])⟩ _ ?_
  · rintro k ⟨m, c⟩ R ih ⟨hk, hi, hm, hc, he⟩
    simp only at *
    by_cases hlt : m.length ≤ M
    · have t1 : decide ((m.length : Int) ≤ (if ((BA a).size : Int) < (BA b).size then ((BA b).size : Int) else (BA a).size)) = true := by rw [decide_eq_true_iff, eM]; omega
      have da := rdigit_runs a m.length ha (by omega) (by omega)
      have db := rdigit_runs b m.length hb (by omega) (by omega)
      have xa : val a / 10 ^ m.length % 10 < 10 := Nat.mod_lt _ (by decide)
      have xb : val b / 10 ^ m.length % 10 < 10 := Nat.mod_lt _ (by decide)
      have la := low_step (val a) m.length
      have lb := low_step (val b) m.length
      generalize val a / 10 ^ m.length % 10 = A at *
      generalize val b / 10 ^ m.length % 10 = B at *
      have en : IntKind.i64.wrap (IntKind.i64.wrap ((A : Int) + (B : Int)) + c) = ((A + B + c : Nat) : Int) := by
        rw [i64w (x := (A : Int) + (B : Int)) (by omega) (by omega), i64n (n := A + B + c) (by omega) (by omega)]
      ((conv => whnf); repeat (refine Gq ?_; (conv => whnf)))
      refine litE t1 ?_
      ((conv => whnf); repeat (refine Gq ?_; (conv => whnf)))
      ((conv => whnf); (refine HfA da ?_); ((conv => whnf); repeat (refine Gq ?_; (conv => whnf))))
      ((conv => whnf); (refine HfA db ?_); ((conv => whnf); repeat (refine Gq ?_; (conv => whnf))))
      have hn : A + B + c ≤ 19 := by omega
      have ef : ∀ z : Int, z = ((A + B + c : Nat) : Int) → [D.v (.int .u8 (IntKind.u8.wrap (IntKind.i64.wrap (48 + z.tmod 10))))] = [UInt8.ofNat (48 + (A + B + c) % 10)].map (fun c : UInt8 => D.v (.int .u8 c.toNat)) := fun z hz => by
        subst hz
        rw [List.map_singleton, tmod10, i64n (n := 48 + (A + B + c) % 10) (by omega) (by omega), u8w (by omega) (by omega), dig_ofNat _ (by omega)]
      refine ⟨rfl, by decide, ?_⟩
      ((conv => whnf); repeat (refine Gq ?_; (conv => whnf)))
      refine ⟨_, ef _ en, ?_⟩
      ((conv => whnf); repeat (refine Gq ?_; (conv => whnf)))
      refine ⟨cat_ok [UInt8.ofNat (48 + (A + B + c) % 10)] m (by rw [List.length_singleton]; omega), ?_⟩
      ((conv => whnf); repeat (refine Gq ?_; (conv => whnf)))
      refine ⟨rfl, by decide, ?_⟩
      ((conv => whnf); repeat (refine Gq ?_; (conv => whnf)))
      refine ih (UInt8.ofNat (48 + (A + B + c) % 10) :: m, (A + B + c) / 10) _ ⟨by simp; omega, by simp; omega, dig_fig (Nat.mod_lt _ (by decide)) hm, by dsimp only; omega, ?_⟩ ?_
      · dsimp only
        rw [val_fig _ _ (Nat.mod_lt _ (by decide)), List.length_cons, la, lb, Nat.pow_succ]
        have := carry10 (A + B + c) (10 ^ m.length)
        have h2 : 10 ^ m.length * (A + B + c) = 10 ^ m.length * A + 10 ^ m.length * B + c * 10 ^ m.length := by rw [Nat.mul_add, Nat.mul_add, Nat.mul_comm _ c]
        omega
      · dsimp only
        (refine Wk.pin [] _ _ ?_ ?_ rfl rfl (by decide) rfl rfl <;> (repeat' first | exact trivial | rfl | (refine And.intro ?_ ?_)))
        · exact inE (by rw [en, tdiv10, i64n (n := (A + B + c) / 10) (by omega) (by omega)])
        · exact inE (i64n (n := m.length + 1) (by omega) (by omega))
    · have t1 : decide ((m.length : Int) ≤ (if ((BA a).size : Int) < (BA b).size then ((BA b).size : Int) else (BA a).size)) = false := by rw [decide_eq_false_iff_not, eM]; omega
      have hii : m.length = M + 1 := by omega
      have hev : val m = val a + val b := by
        have h1 := Nat.lt_of_lt_of_le (val_lt a ha) (Nat.pow_le_pow_right (n := 10) (by decide) (show a.length ≤ M by omega))
        have h2 := Nat.lt_of_lt_of_le (val_lt b hb) (Nat.pow_le_pow_right (n := 10) (by decide) (show b.length ≤ M by omega))
        have h3 := val_lt m hm
        rw [hii, Nat.pow_succ] at he h3
        rw [Nat.mod_eq_of_lt (by omega), Nat.mod_eq_of_lt (by omega)] at he
        by_cases h0 : c = 0
        · subst h0; omega
        · have : c = 1 := by omega
          subst this
          omega
      have hr := rbare_runs m hm (by omega)
      rw [hev] at hr
      ((conv => whnf); repeat (refine Gq ?_; (conv => whnf)))
      refine litE t1 ?_
      ((conv => whnf); repeat (refine Gq ?_; (conv => whnf)))
      ((conv => whnf); (refine HfA hr ?_); ((conv => whnf); repeat (refine Gq ?_; (conv => whnf))))
      exact TeA
  · (refine Wk.to _ _ ?_ ?_ <;> (repeat' first | exact trivial | rfl | (refine And.intro ?_ ?_)))
theorem rminus_runs (a b : List UInt8) (ha : Dig a) (hb : Dig b) (hla : a.length ≤ 100000) (hlb : b.length ≤ 100000) (hle : val b ≤ val a) : Runs Tryz.prog 210 [sD (BA a), sD (BA b)] (sD (BA (decDigits (val a - val b)))) := by
  have hza : ((BA a).size : Int) = (a.length : Int) := by rw [ba_size]
  refine Runs.wp Am.hT Am.hm Tryz.func210 rfl (by decide) ⟨[], [0, 1, 4, 5, 6, 7, 8, 12, 25], 37⟩ ?_; ((conv => whnf); repeat (refine Gq ?_; (conv => whnf)))
  refine loop_ind (fun k (x : List UInt8 × Nat) => k + x.1.length = a.length + 1 ∧ x.1.length ≤ a.length ∧ Dig x.1 ∧ x.2 ≤ 1 ∧ val x.1 + val b % 10 ^ x.1.length = val a % 10 ^ x.1.length + x.2 * 10 ^ x.1.length)
    (fun x => { t := pin [(0, .d (sD (BA a))), (1, .d (sD (BA b))), (5, .d (sD (BA x.1))), (6, .d (iD x.2)), (7, .d (iD x.1.length))], N := 37, h := hpin [], n := 0, lo := 0 }) (fun x h => by omega) ?_ (a.length + 1) ([], 0) ⟨by simp, by simp, fun c h => (by cases h), by simp, (by simp [val, Nat.mod_one])⟩ _ ?_
  · rintro k ⟨m, c⟩ R ih ⟨hk, hi, hm, hc, he⟩
    simp only at *
    by_cases hlt : m.length < a.length
    · have t1 : decide ((m.length : Int) < ((BA a).size : Int)) = true := by rw [decide_eq_true_iff, hza]; omega
      have da := rdigit_runs a m.length ha (by omega) (by omega)
      have db := rdigit_runs b m.length hb (by omega) (by omega)
      have xa : val a / 10 ^ m.length % 10 < 10 := Nat.mod_lt _ (by decide)
      have xb : val b / 10 ^ m.length % 10 < 10 := Nat.mod_lt _ (by decide)
      have la := low_step (val a) m.length
      have lb := low_step (val b) m.length
      generalize val a / 10 ^ m.length % 10 = A at *
      generalize val b / 10 ^ m.length % 10 = B at *
      have en : IntKind.i64.wrap (IntKind.i64.wrap ((A : Int) - (B : Int)) - c) = (A : Int) - B - c := by
        rw [i64w (x := (A : Int) - (B : Int)) (by omega) (by omega), i64w (by omega) (by omega)]
      by_cases hneg : A < B + c
      · have t2 : decide (IntKind.i64.wrap (IntKind.i64.wrap ((A : Int) - (B : Int)) - c) < 0) = true := by rw [decide_eq_true_iff, en]; omega
        have en2 : IntKind.i64.wrap (IntKind.i64.wrap (IntKind.i64.wrap ((A : Int) - (B : Int)) - c) + 10) = ((A + 10 - B - c : Nat) : Int) := by
          rw [en, i64n (n := A + 10 - B - c) (by omega) (by omega)]
        have ef : ∀ z : Int, z = ((A + 10 - B - c : Nat) : Int) → [D.v (.int .u8 (IntKind.u8.wrap (IntKind.i64.wrap (48 + z))))] = [UInt8.ofNat (48 + (A + 10 - B - c))].map (fun c : UInt8 => D.v (.int .u8 c.toNat)) := fun z hz => by
          subst hz
          rw [List.map_singleton, i64n (n := 48 + (A + 10 - B - c)) (by omega) (by omega), u8w (by omega) (by omega), dig_ofNat _ (by omega)]
        ((conv => whnf); repeat (refine Gq ?_; (conv => whnf)))
        refine litE t1 ?_
        ((conv => whnf); repeat (refine Gq ?_; (conv => whnf)))
        ((conv => whnf); (refine HfA da ?_); ((conv => whnf); repeat (refine Gq ?_; (conv => whnf))))
        ((conv => whnf); (refine HfA db ?_); ((conv => whnf); repeat (refine Gq ?_; (conv => whnf))))
        refine litE t2 ?_
        ((conv => whnf); repeat (refine Gq ?_; (conv => whnf)))
        refine ⟨_, ef _ en2, ?_⟩
        ((conv => whnf); repeat (refine Gq ?_; (conv => whnf)))
        refine ⟨cat_ok [UInt8.ofNat (48 + (A + 10 - B - c))] m (by rw [List.length_singleton]; omega), ?_⟩
        ((conv => whnf); repeat (refine Gq ?_; (conv => whnf)))
        refine ih (UInt8.ofNat (48 + (A + 10 - B - c)) :: m, 1) _ ⟨by simp; omega, by simp; omega, dig_fig (by omega) hm, (by dsimp only; omega), ?_⟩ ?_
        · dsimp only
          rw [val_fig _ _ (by omega), List.length_cons, la, lb, Nat.pow_succ]
          have h1 : (A + 10 - B - c) * 10 ^ m.length + B * 10 ^ m.length + c * 10 ^ m.length = A * 10 ^ m.length + 10 * 10 ^ m.length := by
            rw [← Nat.add_mul, ← Nat.add_mul, ← Nat.add_mul]; congr 1; omega
          rw [Nat.mul_comm _ A, Nat.mul_comm _ B]
          omega
        · dsimp only
          (refine Wk.pin [] _ _ ?_ ?_ rfl rfl (by decide) rfl rfl <;> (repeat' first | exact trivial | rfl | (refine And.intro ?_ ?_)))
          exact inE (i64n (n := m.length + 1) (by omega) (by omega))
      · have t2 : decide (IntKind.i64.wrap (IntKind.i64.wrap ((A : Int) - (B : Int)) - c) < 0) = false := by rw [decide_eq_false_iff_not, en]; omega
        have en2 : IntKind.i64.wrap (IntKind.i64.wrap ((A : Int) - (B : Int)) - c) = ((A - B - c : Nat) : Int) := by rw [en]; omega
        have ef : ∀ z : Int, z = ((A - B - c : Nat) : Int) → [D.v (.int .u8 (IntKind.u8.wrap (IntKind.i64.wrap (48 + z))))] = [UInt8.ofNat (48 + (A - B - c))].map (fun c : UInt8 => D.v (.int .u8 c.toNat)) := fun z hz => by
          subst hz
          rw [List.map_singleton, i64n (n := 48 + (A - B - c)) (by omega) (by omega), u8w (by omega) (by omega), dig_ofNat _ (by omega)]
        ((conv => whnf); repeat (refine Gq ?_; (conv => whnf)))
        refine litE t1 ?_
        ((conv => whnf); repeat (refine Gq ?_; (conv => whnf)))
        ((conv => whnf); (refine HfA da ?_); ((conv => whnf); repeat (refine Gq ?_; (conv => whnf))))
        ((conv => whnf); (refine HfA db ?_); ((conv => whnf); repeat (refine Gq ?_; (conv => whnf))))
        refine litE t2 ?_
        ((conv => whnf); repeat (refine Gq ?_; (conv => whnf)))
        refine ⟨_, ef _ en2, ?_⟩
        ((conv => whnf); repeat (refine Gq ?_; (conv => whnf)))
        refine ⟨cat_ok [UInt8.ofNat (48 + (A - B - c))] m (by rw [List.length_singleton]; omega), ?_⟩
        ((conv => whnf); repeat (refine Gq ?_; (conv => whnf)))
        refine ih (UInt8.ofNat (48 + (A - B - c)) :: m, 0) _ ⟨by simp; omega, by simp; omega, dig_fig (by omega) hm, (by dsimp only; omega), ?_⟩ ?_
        · dsimp only
          rw [val_fig _ _ (by omega), List.length_cons, la, lb, Nat.pow_succ]
          have h1 : (A - B - c) * 10 ^ m.length + B * 10 ^ m.length + c * 10 ^ m.length = A * 10 ^ m.length := by
            rw [← Nat.add_mul, ← Nat.add_mul]; congr 1; omega
          rw [Nat.mul_comm _ A, Nat.mul_comm _ B]
          omega
        · dsimp only
          (refine Wk.pin [] _ _ ?_ ?_ rfl rfl (by decide) rfl rfl <;> (repeat' first | exact trivial | rfl | (refine And.intro ?_ ?_)))
          exact inE (i64n (n := m.length + 1) (by omega) (by omega))
    · have t1 : decide ((m.length : Int) < ((BA a).size : Int)) = false := by rw [decide_eq_false_iff_not, hza]; omega
      have hii : m.length = a.length := by omega
      have hev : val m = val a - val b := by
        have h1 := val_lt a ha
        have h3 := val_lt m hm
        rw [hii] at he h3
        rw [Nat.mod_eq_of_lt (by omega), Nat.mod_eq_of_lt (by omega)] at he
        by_cases h0 : c = 0
        · subst h0; omega
        · have : c = 1 := by omega
          subst this
          omega
      have hr := rbare_runs m hm (by omega)
      rw [hev] at hr
      ((conv => whnf); repeat (refine Gq ?_; (conv => whnf)))
      refine litE t1 ?_
      ((conv => whnf); repeat (refine Gq ?_; (conv => whnf)))
      ((conv => whnf); (refine HfA hr ?_); ((conv => whnf); repeat (refine Gq ?_; (conv => whnf))))
      exact TeA
  · (refine Wk.to _ _ ?_ ?_ <;> (repeat' first | exact trivial | rfl | (refine And.intro ?_ ?_)))
end Go.Proofs.YtkhgpnbhnipndaaGreatDoor.Am
end
section
/- The document's numbers: which is greater; sums. -/
namespace Go.Proofs.YtkhgpnbhnipndaaGreatDoor.Am
open Go Go.Lib Go.RowKit Go.Proofs.YtkhgpnbhnipndaaGreatDoor.Nm Go.Proofs.YtkhgpnbhnipndaaGreatDoorW.PrintWords Go.Proofs.YtkhgpnbhnipndaaGreatDoor
set_option linter.unusedVariables false
set_option linter.unusedSimpArgs false
set_option maxRecDepth 100000
set_option maxHeartbeats 8000000
theorem lex_arith {T P Q c d r s A B : Nat} (h1 : A = T * Q + ((c - 48) * P + r)) (h2 : B = T * Q + ((d - 48) * P + s)) (l1 : r < P) (hc : 48 ≤ c) (h : c < d) : A < B := by
  have h3 : (c - 48 + 1) * P ≤ (d - 48) * P := Nat.mul_le_mul_right _ (by omega)
  rw [Nat.add_mul, Nat.one_mul] at h3
  generalize (c - 48) * P = u at *
  generalize (d - 48) * P = v at *
  generalize T * Q = t at *
  omega
theorem lex {l m : List UInt8} (hl : Dig l) (hm : Dig m) (h : l.length = m.length) {i : Nat} (hi : i < l.length) (ht : l.take i = m.take i) (hc : l[i].toNat < (m[i]'(by omega)).toNat) : val l < val m := by
  have h1 := val_split l i
  have h2 := val_split m i
  rw [List.drop_eq_getElem_cons hi, val_cons] at h1
  rw [List.drop_eq_getElem_cons (show i < m.length by omega), val_cons, ← ht, show m.length - i = l.length - i by omega, show (m.drop (i + 1)).length = (l.drop (i + 1)).length by simp [h]] at h2
  exact lex_arith h1 h2 (val_lt _ (dig_drop hl (i + 1))) (hl _ (List.getElem_mem hi)).1 hc
theorem more_lt {s t : ByteArray} (h : s.size < t.size) : Runs Tryz.prog 209 [sD s, sD t] (iD (-1)) := by
  have t1 : (!((s.size : Int) == (t.size : Int))) = true := by simp; omega
  have t2 : decide ((s.size : Int) < (t.size : Int)) = true := by rw [decide_eq_true_iff]; omega
  refine Runs.wp Am.hT Am.hm Tryz.func209 rfl (by decide) ⟨[(8, .first 0 (.first 1 (.first 2 (.first 3 (.first 4 (.first 5 (.first 6 .done))))))), (10, .first 0 (.first 1 (.first 2 (.first 3 (.first 4 (.first 5 (.first 6 .done)))))))], [0, 1, 4, 5, 10, 15, 19, 28, 35], 36⟩ ?_; ((conv => whnf); repeat (refine Gq ?_; (conv => whnf)))
  refine litE t1 ?_
  ((conv => whnf); repeat (refine Gq ?_; (conv => whnf)))
  refine litE t2 ?_
  ((conv => whnf); repeat (refine Gq ?_; (conv => whnf)))
  exact TeA
theorem more_gt {s t : ByteArray} (h : t.size < s.size) : Runs Tryz.prog 209 [sD s, sD t] (iD 1) := by
  have t1 : (!((s.size : Int) == (t.size : Int))) = true := by simp; omega
  have t2 : decide ((s.size : Int) < (t.size : Int)) = false := by rw [decide_eq_false_iff_not]; omega
  refine Runs.wp Am.hT Am.hm Tryz.func209 rfl (by decide) ⟨[(8, .first 0 (.first 1 (.first 2 (.first 3 (.first 4 (.first 5 (.first 6 .done))))))), (10, .first 0 (.first 1 (.first 2 (.first 3 (.first 4 (.first 5 (.first 6 .done)))))))], [0, 1, 4, 5, 10, 15, 19, 28, 35], 36⟩ ?_; ((conv => whnf); repeat (refine Gq ?_; (conv => whnf)))
  refine litE t1 ?_
  ((conv => whnf); repeat (refine Gq ?_; (conv => whnf)))
  refine litE t2 ?_
  ((conv => whnf); repeat (refine Gq ?_; (conv => whnf)))
  exact TeA
theorem rmore_runs (x y : Nat) (hx : (decDigits x).length ≤ 1000000) : Runs Tryz.prog 209 [sD (BA (decDigits x)), sD (BA (decDigits y))] (iD (cmpN x y)) := by
  have ll := len_lt_val x y
  have lg := len_lt_val y x
  have ex := val_decDigits x
  have ey := val_decDigits y
  have hdx := dig_decDigits x
  have hdy := dig_decDigits y
  generalize decDigits x = l at *
  generalize decDigits y = m at *
  have hzl : ((BA l).size : Int) = (l.length : Int) := by rw [ba_size]
  have hzm : ((BA m).size : Int) = (m.length : Int) := by rw [ba_size]
  by_cases h : l.length = m.length
  · have t1 : (!(((BA l).size : Int) == ((BA m).size : Int))) = false := by rw [hzl, hzm, h]; simp
    refine Runs.wp Am.hT Am.hm Tryz.func209 rfl (by decide) ⟨[(8, .first 0 (.first 1 (.first 2 (.first 3 (.first 4 (.first 5 (.first 6 .done))))))), (10, .first 0 (.first 1 (.first 2 (.first 3 (.first 4 (.first 5 (.first 6 .done)))))))], [0, 1, 4, 5, 10, 15, 19, 28, 35], 36⟩ ?_; ((conv => whnf); repeat (refine Gq ?_; (conv => whnf)))
    refine litE t1 ?_
    ((conv => whnf); repeat (refine Gq ?_; (conv => whnf)))
    refine loop_ind (fun k (i : Nat) => i + k = l.length + 1 ∧ i ≤ l.length ∧ l.take i = m.take i) (fun i => { t := pin [(0, .d (sD (BA l))), (1, .d (sD (BA m))), (5, .d (iD i))], N := 36, h := hpin [], n := 0, lo := 0 }) (fun i h => by omega) ?_ (l.length + 1) 0 ⟨by simp, by simp, rfl⟩ _ ?_
    · rintro k i R ih ⟨hk, hi, ht⟩
      by_cases hlt : i < l.length
      · have t2 : decide ((i : Int) < ((BA l).size : Int)) = true := by rw [decide_eq_true_iff, hzl]; omega
        have hlt2 : i < m.length := by omega
        have gl := ba_ix (l := l) (i := i) (j := (i : Int)) hlt (by simp)
        have gm := ba_ix (l := m) (i := i) (j := (i : Int)) hlt2 (by simp)
        have x1 := @lex l m hdx hdy h i hlt ht
        have x2 := @lex m l hdy hdx h.symm i hlt2 ht.symm
        have te : l[i].toNat = m[i].toNat → l.take (i + 1) = m.take (i + 1) := fun e => by
          rw [List.take_add_one, List.take_add_one, List.getElem?_eq_getElem hlt, List.getElem?_eq_getElem hlt2, ht, UInt8.toNat_inj.mp e]
        ((conv => whnf); repeat (refine Gq ?_; (conv => whnf)))
        refine litE t2 ?_
        ((conv => whnf); repeat (refine Gq ?_; (conv => whnf)))
        by_cases hc : l[i].toNat < m[i].toNat
        · have t3 : decide (((l[i].toNat : Nat) : Int) < ((m[i].toNat : Nat) : Int)) = true := by rw [decide_eq_true_iff]; omega
          have hv := x1 hc
          rw [ex, ey] at hv
          rw [show cmpN x y = -1 by unfold cmpN; rw [if_pos hv]]
          (refine And.intro (by decide +kernel) ?_; apply Exists.intro; apply And.intro; focus ((repeat' ((conv => whnf); first | exact trivial | refine Wo ?_ | refine Lt (by decide) ?_ | refine Lf (by decide) ?_ | refine Cl (by decide) ?_ | refine Cr (by decide) ?_ | refine Both.mk ?_ ?_ | (first | exact Wk.frc (keep := [0, 1, 4, 5, 10, 15, 19, 28, 35]) (N := 36) (by (conv => whnf); first | done | exact rfl) | refine ⟨by omega, by rw [hzl]; omega, _, gl, ?_⟩ | refine ⟨by omega, by rw [hzm]; omega, _, gm, ?_⟩ | refine litE t3 ?_) | refine ⟨_, rfl, ?_⟩ | refine Mi rfl ?_ | (refine And.intro ?_ ?_))); all_goals (first | decide | rfl | assumption | omega | (dsimp only; omega) | (unfold maxLen; omega) | ((try dsimp only [maxLen]); simp only [List.length_append, List.length_cons, List.length_nil, List.length_map, List.length_range, List.length_set, List.length_replicate]; omega) | ((try dsimp only [maxLen]); simp only [IntKind.wrap_i64, IntKind.wrap_u64, List.length_append, List.length_cons, List.length_nil, List.length_map, List.length_range, List.length_set, List.length_replicate]; omega) | ((try dsimp only [maxLen]); simp only [List.length_append, List.length_cons, List.length_nil, List.length_map, List.length_range, List.length_set, List.length_replicate] at *; omega))))
          ((conv => whnf); repeat (refine Gq ?_; (conv => whnf)))
          exact TeA
        · have t3 : decide (((l[i].toNat : Nat) : Int) < ((m[i].toNat : Nat) : Int)) = false := by rw [decide_eq_false_iff_not]; omega
          (refine And.intro (by decide +kernel) ?_; apply Exists.intro; apply And.intro; focus ((repeat' ((conv => whnf); first | exact trivial | refine Wo ?_ | refine Lt (by decide) ?_ | refine Lf (by decide) ?_ | refine Cl (by decide) ?_ | refine Cr (by decide) ?_ | refine Both.mk ?_ ?_ | (first | exact Wk.frc (keep := [0, 1, 4, 5, 10, 15, 19, 28, 35]) (N := 36) (by (conv => whnf); first | done | exact rfl) | refine ⟨by omega, by rw [hzl]; omega, _, gl, ?_⟩ | refine ⟨by omega, by rw [hzm]; omega, _, gm, ?_⟩ | refine litE t3 ?_) | refine ⟨_, rfl, ?_⟩ | refine Mi rfl ?_ | (refine And.intro ?_ ?_))); all_goals (first | decide | rfl | assumption | omega | (dsimp only; omega) | (unfold maxLen; omega) | ((try dsimp only [maxLen]); simp only [List.length_append, List.length_cons, List.length_nil, List.length_map, List.length_range, List.length_set, List.length_replicate]; omega) | ((try dsimp only [maxLen]); simp only [IntKind.wrap_i64, IntKind.wrap_u64, List.length_append, List.length_cons, List.length_nil, List.length_map, List.length_range, List.length_set, List.length_replicate]; omega) | ((try dsimp only [maxLen]); simp only [List.length_append, List.length_cons, List.length_nil, List.length_map, List.length_range, List.length_set, List.length_replicate] at *; omega))))
          ((conv => whnf); repeat (refine Gq ?_; (conv => whnf)))
          by_cases hc2 : m[i].toNat < l[i].toNat
          · have t4 : decide (((l[i].toNat : Nat) : Int) > ((m[i].toNat : Nat) : Int)) = true := by rw [decide_eq_true_iff]; omega
            have hv := x2 hc2
            rw [ex, ey] at hv
            rw [show cmpN x y = 1 by unfold cmpN; rw [if_neg (by omega), if_pos hv]]
            (refine And.intro (by decide +kernel) ?_; apply Exists.intro; apply And.intro; focus ((repeat' ((conv => whnf); first | exact trivial | refine Wo ?_ | refine Lt (by decide) ?_ | refine Lf (by decide) ?_ | refine Cl (by decide) ?_ | refine Cr (by decide) ?_ | refine Both.mk ?_ ?_ | (first | exact Wk.frc (keep := [0, 1, 4, 5, 10, 15, 19, 28, 35]) (N := 36) (by (conv => whnf); first | done | exact rfl) | refine ⟨by omega, by rw [hzl]; omega, _, gl, ?_⟩ | refine ⟨by omega, by rw [hzm]; omega, _, gm, ?_⟩ | refine litE t4 ?_) | refine ⟨_, rfl, ?_⟩ | refine Mi rfl ?_ | (refine And.intro ?_ ?_))); all_goals (first | decide | rfl | assumption | omega | (dsimp only; omega) | (unfold maxLen; omega) | ((try dsimp only [maxLen]); simp only [List.length_append, List.length_cons, List.length_nil, List.length_map, List.length_range, List.length_set, List.length_replicate]; omega) | ((try dsimp only [maxLen]); simp only [IntKind.wrap_i64, IntKind.wrap_u64, List.length_append, List.length_cons, List.length_nil, List.length_map, List.length_range, List.length_set, List.length_replicate]; omega) | ((try dsimp only [maxLen]); simp only [List.length_append, List.length_cons, List.length_nil, List.length_map, List.length_range, List.length_set, List.length_replicate] at *; omega))))
            ((conv => whnf); repeat (refine Gq ?_; (conv => whnf)))
            exact TeA
          · have t4 : decide (((l[i].toNat : Nat) : Int) > ((m[i].toNat : Nat) : Int)) = false := by rw [decide_eq_false_iff_not]; omega
            (refine And.intro (by decide +kernel) ?_; apply Exists.intro; apply And.intro; focus ((repeat' ((conv => whnf); first | exact trivial | refine Wo ?_ | refine Lt (by decide) ?_ | refine Lf (by decide) ?_ | refine Cl (by decide) ?_ | refine Cr (by decide) ?_ | refine Both.mk ?_ ?_ | (first | exact Wk.frc (keep := [0, 1, 4, 5, 10, 15, 19, 28, 35]) (N := 36) (by (conv => whnf); first | done | exact rfl) | refine ⟨by omega, by rw [hzl]; omega, _, gl, ?_⟩ | refine ⟨by omega, by rw [hzm]; omega, _, gm, ?_⟩ | refine litE t4 ?_) | refine ⟨_, rfl, ?_⟩ | refine Mi rfl ?_ | (refine And.intro ?_ ?_))); all_goals (first | decide | rfl | assumption | omega | (dsimp only; omega) | (unfold maxLen; omega) | ((try dsimp only [maxLen]); simp only [List.length_append, List.length_cons, List.length_nil, List.length_map, List.length_range, List.length_set, List.length_replicate]; omega) | ((try dsimp only [maxLen]); simp only [IntKind.wrap_i64, IntKind.wrap_u64, List.length_append, List.length_cons, List.length_nil, List.length_map, List.length_range, List.length_set, List.length_replicate]; omega) | ((try dsimp only [maxLen]); simp only [List.length_append, List.length_cons, List.length_nil, List.length_map, List.length_range, List.length_set, List.length_replicate] at *; omega))))
            ((conv => whnf); repeat (refine Gq ?_; (conv => whnf)))
            refine ih (i + 1) _ ⟨by omega, by omega, te (by omega)⟩ ?_
            (refine Wk.to _ _ ?_ ?_ <;> (repeat' first | exact trivial | rfl | (refine And.intro ?_ ?_)))
            exact inE (i64n (n := i + 1) (by omega) (by omega))
      · have t2 : decide ((i : Int) < ((BA l).size : Int)) = false := by rw [decide_eq_false_iff_not, hzl]; omega
        rw [List.take_of_length_le (by omega), List.take_of_length_le (by omega)] at ht
        rw [show cmpN x y = 0 by rw [cmpN_zero, ← ex, ← ey, ht]]
        ((conv => whnf); repeat (refine Gq ?_; (conv => whnf)))
        refine litE t2 ?_
        ((conv => whnf); repeat (refine Gq ?_; (conv => whnf)))
        exact TeA
    · (refine Wk.to _ _ ?_ ?_ <;> (repeat' first | exact trivial | rfl | (refine And.intro ?_ ?_)))
  · by_cases hlt : l.length < m.length
    · rw [show cmpN x y = -1 by unfold cmpN; rw [if_pos (ll hlt)]]
      exact more_lt (by rw [ba_size, ba_size]; exact hlt)
    · have := lg (by omega)
      rw [show cmpN x y = 1 by unfold cmpN; rw [if_neg (by omega), if_pos this]]
      exact more_gt (by rw [ba_size, ba_size]; omega)
end Go.Proofs.YtkhgpnbhnipndaaGreatDoor.Am
end
section
/- The document's numbers: sums, products, signs. -/
namespace Go.Proofs.YtkhgpnbhnipndaaGreatDoor.Am
open Go Go.Lib Go.RowKit Go.Proofs.YtkhgpnbhnipndaaGreatDoor.Nm Go.Proofs.YtkhgpnbhnipndaaGreatDoorW.PrintWords Go.Proofs.YtkhgpnbhnipndaaGreatDoor
set_option linter.unusedVariables false
set_option linter.unusedSimpArgs false
set_option maxRecDepth 100000
set_option maxHeartbeats 8000000
theorem hyp_itoa (z : Int) : hyp (itoa z) = decide (z < 0) := by
  by_cases h : z < 0
  · rw [itoa_neg' h, decide_eq_true h]; rfl
  · rw [itoa_pos' h, decide_eq_false h]
    obtain ⟨c, r, e, h1, h2⟩ := head_dec z.natAbs
    rw [e]
    show (c == 45) = false
    rw [beq_eq_false_iff_ne]
    intro hc
    subst hc
    exact absurd h1 (by decide)
theorem nlow_runs (z : Int) : Runs Tryz.prog 205 [sD (numS z)] (bD (decide (z < 0))) := by
  have h := rlow_runs (itoa z)
  rwa [hyp_itoa] at h
theorem nsize_runs (z : Int) : Runs Tryz.prog 206 [sD (numS z)] (sD (BA (decDigits z.natAbs))) := by
  have h := rsize_runs (itoa z)
  rwa [body_itoa] at h
theorem nsigned_runs (n : Nat) (b : Bool) (hl : (decDigits n).length ≤ 1000000) : Runs Tryz.prog 207 [sD (BA (decDigits n)), bD b] (sD (numS (sv n b))) := by
  have h := rsigned_runs (decDigits n) b (dig_decDigits n) hl
  rwa [val_decDigits] at h
theorem nplus_runs (x y : Nat) (hx : (decDigits x).length ≤ 100000) (hy : (decDigits y).length ≤ 100000) : Runs Tryz.prog 208 [sD (BA (decDigits x)), sD (BA (decDigits y))] (sD (BA (decDigits (x + y)))) := by
  have h := rplus_runs (decDigits x) (decDigits y) (dig_decDigits x) (dig_decDigits y) hx hy
  rwa [val_decDigits, val_decDigits] at h
theorem nminus_runs (x y : Nat) (hx : (decDigits x).length ≤ 100000) (hy : (decDigits y).length ≤ 100000) (hle : y ≤ x) : Runs Tryz.prog 210 [sD (BA (decDigits x)), sD (BA (decDigits y))] (sD (BA (decDigits (x - y)))) := by
  have h := rminus_runs (decDigits x) (decDigits y) (dig_decDigits x) (dig_decDigits y) hx hy (by rwa [val_decDigits, val_decDigits])
  rwa [val_decDigits, val_decDigits] at h
theorem cmpN_ge (x y : Nat) : decide (cmpN x y ≥ 0) = decide (y ≤ x) := by
  rw [decide_eq_decide]
  unfold cmpN
  split <;> (try split) <;> omega
theorem nsum_runs (x y : Int) (hx : nl x ≤ 10000) (hy : nl y ≤ 10000) : Runs Tryz.prog 164 [sD (numS x), sD (numS y)] (sD (numS (x + y))) := by
  have lx := nlow_runs x
  have ly := nlow_runs y
  have sx := nsize_runs x
  have sy := nsize_runs y
  have e : x + y = sv (plusW x.natAbs (decide (x < 0)) y.natAbs (decide (y < 0))).1 (plusW x.natAbs (decide (x < 0)) y.natAbs (decide (y < 0))).2 := by rw [plusW_sv, sv_abs, sv_abs]
  rw [e]
  unfold nl at hx hy
  generalize decide (x < 0) = a at *
  generalize decide (y < 0) = b at *
  generalize x.natAbs = X at *
  generalize y.natAbs = Y at *
  unfold plusW
  by_cases hab : (a == b) = true
  · rw [if_pos hab]
    have p := nplus_runs X Y (by omega) (by omega)
    have g := nsigned_runs (X + Y) a (by have := dec_add hx hy; omega)
    refine Runs.wp Am.hT Am.hm Tryz.func164 rfl (by decide) ⟨[], [0, 1, 4, 9, 23], 40⟩ ?_; ((conv => whnf); repeat (refine Gq ?_; (conv => whnf)))
    ((conv => whnf); (refine HfA lx ?_); ((conv => whnf); repeat (refine Gq ?_; (conv => whnf))))
    ((conv => whnf); (refine HfA ly ?_); ((conv => whnf); repeat (refine Gq ?_; (conv => whnf))))
    refine Cr (fun h => absurd hab (by rw [h]; decide)) ?_
    ((conv => whnf); repeat (refine Gq ?_; (conv => whnf)))
    ((conv => whnf); (refine HfA sx ?_); ((conv => whnf); repeat (refine Gq ?_; (conv => whnf))))
    ((conv => whnf); (refine HfA sy ?_); ((conv => whnf); repeat (refine Gq ?_; (conv => whnf))))
    ((conv => whnf); (refine HfA p ?_); ((conv => whnf); repeat (refine Gq ?_; (conv => whnf))))
    ((conv => whnf); (refine HfA lx ?_); ((conv => whnf); repeat (refine Gq ?_; (conv => whnf))))
    ((conv => whnf); (refine HfA g ?_); ((conv => whnf); repeat (refine Gq ?_; (conv => whnf))))
    exact TeA
  · rw [if_neg hab]
    have hab' : (a == b) = false := by simpa using hab
    have mo := rmore_runs X Y (by omega)
    have ge := cmpN_ge X Y
    by_cases hlt : X < Y
    · rw [decide_eq_false (show ¬ Y ≤ X by omega)] at ge
      rw [if_pos hlt]
      have p := nminus_runs Y X (by omega) (by omega) (by omega)
      have g := nsigned_runs (Y - X) b (by have := dec_mono (show Y - X ≤ Y by omega); omega)
      refine Runs.wp Am.hT Am.hm Tryz.func164 rfl (by decide) ⟨[], [0, 1, 4, 9, 23], 40⟩ ?_; ((conv => whnf); repeat (refine Gq ?_; (conv => whnf)))
      ((conv => whnf); (refine HfA lx ?_); ((conv => whnf); repeat (refine Gq ?_; (conv => whnf))))
      ((conv => whnf); (refine HfA ly ?_); ((conv => whnf); repeat (refine Gq ?_; (conv => whnf))))
      refine Cl hab ?_
      ((conv => whnf); repeat (refine Gq ?_; (conv => whnf)))
      ((conv => whnf); (refine HfA sx ?_); ((conv => whnf); repeat (refine Gq ?_; (conv => whnf))))
      ((conv => whnf); (refine HfA sy ?_); ((conv => whnf); repeat (refine Gq ?_; (conv => whnf))))
      ((conv => whnf); (refine HfA mo ?_); ((conv => whnf); repeat (refine Gq ?_; (conv => whnf))))
      refine litE ge ?_
      ((conv => whnf); repeat (refine Gq ?_; (conv => whnf)))
      ((conv => whnf); (refine HfA sy ?_); ((conv => whnf); repeat (refine Gq ?_; (conv => whnf))))
      ((conv => whnf); (refine HfA sx ?_); ((conv => whnf); repeat (refine Gq ?_; (conv => whnf))))
      ((conv => whnf); (refine HfA p ?_); ((conv => whnf); repeat (refine Gq ?_; (conv => whnf))))
      ((conv => whnf); (refine HfA ly ?_); ((conv => whnf); repeat (refine Gq ?_; (conv => whnf))))
      ((conv => whnf); (refine HfA g ?_); ((conv => whnf); repeat (refine Gq ?_; (conv => whnf))))
      exact TeA
    · rw [decide_eq_true (show Y ≤ X by omega)] at ge
      rw [if_neg hlt]
      have p := nminus_runs X Y (by omega) (by omega) (by omega)
      have g := nsigned_runs (X - Y) a (by have := dec_mono (show X - Y ≤ X by omega); omega)
      refine Runs.wp Am.hT Am.hm Tryz.func164 rfl (by decide) ⟨[], [0, 1, 4, 9, 23], 40⟩ ?_; ((conv => whnf); repeat (refine Gq ?_; (conv => whnf)))
      ((conv => whnf); (refine HfA lx ?_); ((conv => whnf); repeat (refine Gq ?_; (conv => whnf))))
      ((conv => whnf); (refine HfA ly ?_); ((conv => whnf); repeat (refine Gq ?_; (conv => whnf))))
      refine Cl hab ?_
      ((conv => whnf); repeat (refine Gq ?_; (conv => whnf)))
      ((conv => whnf); (refine HfA sx ?_); ((conv => whnf); repeat (refine Gq ?_; (conv => whnf))))
      ((conv => whnf); (refine HfA sy ?_); ((conv => whnf); repeat (refine Gq ?_; (conv => whnf))))
      ((conv => whnf); (refine HfA mo ?_); ((conv => whnf); repeat (refine Gq ?_; (conv => whnf))))
      refine litE ge ?_
      ((conv => whnf); repeat (refine Gq ?_; (conv => whnf)))
      ((conv => whnf); (refine HfA sx ?_); ((conv => whnf); repeat (refine Gq ?_; (conv => whnf))))
      ((conv => whnf); (refine HfA sy ?_); ((conv => whnf); repeat (refine Gq ?_; (conv => whnf))))
      ((conv => whnf); (refine HfA p ?_); ((conv => whnf); repeat (refine Gq ?_; (conv => whnf))))
      ((conv => whnf); (refine HfA lx ?_); ((conv => whnf); repeat (refine Gq ?_; (conv => whnf))))
      ((conv => whnf); (refine HfA g ?_); ((conv => whnf); repeat (refine Gq ?_; (conv => whnf))))
      exact TeA
theorem nturned_runs (x : Int) (hx : nl x ≤ 10000) : Runs Tryz.prog 165 [sD (numS x)] (sD (numS (-x))) := by
  have lx := nlow_runs x
  have sx := nsize_runs x
  have g := nsigned_runs x.natAbs (!decide (x < 0)) (by unfold nl at hx; omega)
  rw [show sv x.natAbs (!decide (x < 0)) = -x by
    unfold sv
    by_cases h : x < 0
    · rw [decide_eq_true h]; simp; omega
    · rw [decide_eq_false h]; simp; omega] at g
  refine Runs.wp Am.hT Am.hm Tryz.func165 rfl (by decide) ⟨[], [0, 2], 9⟩ ?_; ((conv => whnf); repeat (refine Gq ?_; (conv => whnf)))
  ((conv => whnf); (refine HfA sx ?_); ((conv => whnf); repeat (refine Gq ?_; (conv => whnf))))
  ((conv => whnf); (refine HfA lx ?_); ((conv => whnf); repeat (refine Gq ?_; (conv => whnf))))
  ((conv => whnf); (refine HfA g ?_); ((conv => whnf); repeat (refine Gq ?_; (conv => whnf))))
  exact TeA
theorem ntold_runs (x : Int) : Runs Tryz.prog 166 [sD (numS x)] (.tup [sD (Nm.told x).1, iD (Nm.told x).2]) := by
  have sx := nsize_runs x
  have hz : ((BA (decDigits x.natAbs)).size : Int) = ((decDigits x.natAbs).length : Int) := by rw [ba_size]
  unfold Nm.told
  by_cases h : x.natAbs < 10 ^ 100
  · have := len_le _ _ (by decide) h
    have t1 : decide (((BA (decDigits x.natAbs)).size : Int) > 100) = false := by rw [decide_eq_false_iff_not, hz]; omega
    rw [if_pos h]
    refine Runs.wp Am.hT Am.hm Tryz.func166 rfl (by decide) ⟨[], [0, 2, 3, 7], 9⟩ ?_; ((conv => whnf); repeat (refine Gq ?_; (conv => whnf)))
    ((conv => whnf); (refine HfA sx ?_); ((conv => whnf); repeat (refine Gq ?_; (conv => whnf))))
    refine litE t1 ?_
    ((conv => whnf); repeat (refine Gq ?_; (conv => whnf)))
    exact TeA
  · have : ¬ (decDigits x.natAbs).length ≤ 100 := fun e => h (lt_of_len _ _ e)
    have t1 : decide (((BA (decDigits x.natAbs)).size : Int) > 100) = true := by rw [decide_eq_true_iff, hz]; omega
    rw [if_neg h]
    refine Runs.wp Am.hT Am.hm Tryz.func166 rfl (by decide) ⟨[], [0, 2, 3, 7], 9⟩ ?_; ((conv => whnf); repeat (refine Gq ?_; (conv => whnf)))
    ((conv => whnf); (refine HfA sx ?_); ((conv => whnf); repeat (refine Gq ?_; (conv => whnf))))
    refine litE t1 ?_
    ((conv => whnf); repeat (refine Gq ?_; (conv => whnf)))
    exact TeA
end Go.Proofs.YtkhgpnbhnipndaaGreatDoor.Am
end
section
/- Numbers: read, turned, added, told. -/
namespace Go.Proofs.YtkhgpnbhnipndaaGreatDoor.Am
open Go Go.Lib Go.RowKit Go.Proofs.YtkhgpnbhnipndaaGreatDoor.Nm Go.Proofs.YtkhgpnbhnipndaaGreatDoorW.PrintWords Go.Proofs.YtkhgpnbhnipndaaGreatDoor
set_option linter.unusedVariables false
set_option linter.unusedSimpArgs false
set_option maxRecDepth 100000
set_option maxHeartbeats 4000000
theorem dec_lt9 {l : List UInt8} (hd : Dig l) (hl : l.length ≤ 9) : val l < 1000000000 :=
  Nat.lt_of_lt_of_le (val_lt l hd) (Nat.pow_le_pow_right (n := 10) (by decide) hl)
theorem read_go (s : ByteArray) (n : Nat) (b : Bool) (hn : (decDigits n).length ≤ 10000) (hT : Runs Tryz.prog 137 [sD s, sD ⟨#[45]⟩] (sD (BA (decDigits n))))
    (hb : ∃ c r, s = BA (c :: r) ∧ (c.toNat == 45) = b) : Runs Tryz.prog 160 [sD s] (wD n b) := by
  obtain ⟨c0, r0, rfl, hb⟩ := hb
  refine Runs.wp Am.hT Am.hm Tryz.func160 rfl (by decide) ⟨[], [0, 2, 3, 4, 5, 6, 12], 42⟩ ?_; ((conv => whnf); repeat (refine Gq ?_; (conv => whnf)))
  ((conv => whnf); (refine HfA hT ?_); ((conv => whnf); repeat (refine Gq ?_; (conv => whnf))))
  refine loop_ind (fun k (x : List UInt8 × List Nat) => x.1.length < k ∧ x.1.length + x.2.length ≤ 10000 ∧ Dig x.1 ∧ Pt x.2 ∧ val x.1 * 1000000000 ^ x.2.length + mv x.2 = n ∧ x.1.length ≤ 10000)
    (fun x => { t := pin [(0, .d (sD (BA (c0 :: r0)))), (2, .pt 0 0), (3, .d (sD (BA x.1))), (4, .bs 1)], N := 42, h := hpin [some (.st 176 [.imm (.slice none 0 0), .imm (.bool false)]), uR x.2], n := 2, lo := 0 }) (fun x h => by omega) ?_ 10001 (decDigits n, []) ⟨Nat.lt_succ_of_le hn, hn, dig_decDigits n, fun z hz => by simp at hz, by simp [val_decDigits, mv], hn⟩ _ ?_
  · rintro k ⟨d, m⟩ R ih ⟨hk, hlen, hd, hm, hv, hd4⟩
    simp only at *
    have hs : ((BA d).size : Int) = (d.length : Int) := by rw [ba_size]
    by_cases h0 : d = []
    · subst h0
      have hv2 : mv m = n := by simpa [val] using hv
      have ht := trim_runs m hm (by omega)
      rw [hv2] at ht
      ((conv => whnf); repeat (refine Gq ?_; (conv => whnf)))
      ((conv => whnf); (refine HrA ht ?_); ((conv => whnf); repeat (refine Gq ?_; (conv => whnf))))
      have hsz : 0 < ((BA (c0 :: r0)).size : Int) := by rw [ba_size]; simp
      refine Lt (by rw [decide_eq_true_eq]; omega) ?_
      ((conv => whnf); repeat ((first | refine Wo ?_ | refine Lt (by decide) ?_ | refine Lf (by decide) ?_ | refine Cl (by decide) ?_ | refine Cr (by decide) ?_ | refine ⟨_, rfl, ?_⟩ | refine Mi rfl ?_ | (refine And.intro ArA ?_)); (conv => whnf)))
      refine litE ((u8E c0 45 (by decide)).trans hb) ?_
      ((conv => whnf); repeat (refine Gq ?_; (conv => whnf)))
      exact TeA
    · obtain ⟨at_, hat⟩ : ∃ a, a = d.length - 9 := ⟨_, rfl⟩
      have hpos : 0 < d.length := List.length_pos_iff.mpr h0
      have e1 : (if IntKind.i64.wrap (((BA d).size : Int) - 9) < 0 then 0 else IntKind.i64.wrap (((BA d).size : Int) - 9)) = (at_ : Int) := by
        rw [i64w (by omega) (by omega)]
        split <;> omega
      have e2 : (BA d).extract (Int.toNat (at_ : Int)) (Int.toNat ((BA d).size : Int)) = BA (d.drop at_) := ba_drop d at_ (by omega)
      have e3 : (BA d).extract (Int.toNat 0) (Int.toNat (at_ : Int)) = BA (d.take at_) := ba_take d at_ (by omega)
      have hdl : (d.drop at_).length ≤ 9 := by simp; omega
      have hp := parseU_runs (d.drop at_) (dig_drop hd at_) (fun e => by have := congrArg List.length e; simp at this; omega) hdl
      have h9 := dec_lt9 (dig_drop hd at_) hdl
      replace hv := Pk.mk hv
      ((conv => whnf); repeat (refine Gq ?_; (conv => whnf)))
      refine Lt (by rw [decide_eq_true_eq]; omega) ?_
      ((conv => whnf); repeat (refine Gq ?_; (conv => whnf)))
      rw [e1]
      ((conv => whnf); repeat ((first | refine Wo ?_ | refine Lt (by decide) ?_ | refine Lf (by decide) ?_ | refine Cl (by decide) ?_ | refine Cr (by decide) ?_ | refine ⟨_, rfl, ?_⟩ | refine Mi rfl ?_ | (refine And.intro ArA ?_)); (conv => whnf)))
      rw [e2]
      ((conv => whnf); (refine HfA hp ?_); ((conv => whnf); repeat (refine Gq ?_; (conv => whnf))))
      ((conv => whnf); repeat ((first | refine Wo ?_ | refine Lt (by decide) ?_ | refine Lf (by decide) ?_ | refine Cl (by decide) ?_ | refine Cr (by decide) ?_ | refine ⟨_, rfl, ?_⟩ | refine Mi rfl ?_ | (refine And.intro ArA ?_)); (conv => whnf)))
      refine ih (d.take at_, m ++ [val (d.drop at_)]) _ ⟨by simp; omega, by simp; omega, dig_take hd at_, pt_append hm (pt_one h9), ?_, by simp; omega⟩ ?_
      · dsimp only
        have h1 := val_split d at_
        have h2 : val (d.take at_) * 10 ^ (d.length - at_) = val (d.take at_) * 1000000000 := by
          by_cases h : at_ = 0
          · rw [h]; simp [val]
          · rw [show d.length - at_ = 9 by omega]
        rw [mv_snoc, List.length_append, List.length_singleton, Nat.pow_succ, ← hv.out, h1, h2, Nat.add_mul]
        rw [Nat.mul_comm (1000000000 ^ m.length) 1000000000, ← Nat.mul_assoc, Nat.mul_comm (val (d.drop at_))]
        omega
      · dsimp only
        (refine Wk.pin [0, 3] _ _ ?_ ?_ rfl rfl (by decide) rfl rfl <;> (repeat' first | exact trivial | rfl | (refine And.intro ?_ ?_)))
        · exact congrArg (fun z => V.d (.v (.string z))) e3
        · exact arE (by simp) (by simp)
  · refine (Wk.virt 4 205 1 rfl (show 4 < 42 by decide)).trans ?_
    (refine Wk.to _ _ ?_ ?_ <;> (repeat' first | exact trivial | rfl | (refine And.intro ?_ ?_)))
theorem read_runs (z : Int) (hz : nl z ≤ 10000) : Runs Tryz.prog 160 [sD (numS z)] (wD z.natAbs (decide (z < 0))) := by
  have ht := trimP_runs (itoa z)
  rw [body_itoa] at ht
  obtain ⟨c, r, e, h1, h2⟩ := head_dec z.natAbs
  refine read_go (numS z) z.natAbs _ hz ht ?_
  by_cases h : z < 0
  · exact ⟨45, decDigits z.natAbs, numS_neg h, by simp [h]⟩
  · exact ⟨c, r, by rw [numS_pos h, e], by rw [decide_eq_false h]; exact beq_eq_false_iff_ne.mpr (by omega)⟩
theorem turned_runs (n : Nat) (b : Bool) (hn : (mg n).length ≤ 1000000) : Runs Tryz.prog 154 [wD n b] (wD n (!b && decide (n ≠ 0))) := by
  cases b with
  | true =>
    refine Runs.wp Am.hT Am.hm Tryz.func154 rfl (by decide) ⟨[], [0, 1, 2], 15⟩ ?_; ((conv => whnf); repeat (refine Gq ?_; (conv => whnf)))
    exact TeA
  | false =>
    have h : decide (((mg n).length : Int) > 0) = decide (n ≠ 0) := by
      by_cases h0 : n = 0
      · subst h0; rw [mg_zero]; rfl
      · rw [mg_pos h0, decide_eq_true h0]
        simp
    refine Runs.wp Am.hT Am.hm Tryz.func154 rfl (by decide) ⟨[], [0, 1, 2], 15⟩ ?_; ((conv => whnf); repeat (refine Gq ?_; (conv => whnf)))
    refine litE h ?_
    ((conv => whnf); repeat (refine Gq ?_; (conv => whnf)))
    exact TeA
theorem plus_runs (x y : Nat) (a b : Bool) (hx : (mg x).length ≤ 90000) (hy : (mg y).length ≤ 90000) : Runs Tryz.prog 152 [wD x a, wD y b] (wD (plusW x a y b).1 (plusW x a y b).2) := by
  have same : ∀ a, Runs Tryz.prog 152 [wD x a, wD y a] (wD (x + y) a) := by
    have h1 := sum_runs (mg x) (mg y) (pt_mg x) (pt_mg y) (by omega) (by omega)
    rw [mv_mg, mv_mg] at h1
    intro a
    cases a
    all_goals
      refine Runs.wp Am.hT Am.hm Tryz.func152 rfl (by decide) ⟨[(2, .first 0 (.first 2 (.first 5 (.load 1 [4, 7, 8] (.load 3 [4, 7, 8] (.alt 4 (.load 6 [7, 8] (.first 7 (.alt 8 .done .nil))) (.alt 6 (.alt 4 (.first 7 (.alt 8 .done .nil)) .nil) .nil))))))), (4, .first 0 (.first 2 (.first 5 (.load 1 [4, 7, 8] (.load 3 [4, 7, 8] (.alt 4 (.load 6 [7, 8] (.first 7 (.alt 8 .done .nil))) (.alt 6 (.alt 4 (.first 7 (.alt 8 .done .nil)) .nil) .nil))))))), (5, .first 0 (.first 2 (.first 5 (.load 1 [4, 7, 8] (.load 3 [4, 7, 8] (.alt 4 (.load 6 [7, 8] (.first 7 (.alt 8 .done .nil))) (.alt 6 (.alt 4 (.first 7 (.alt 8 .done .nil)) .nil) .nil)))))))], [0, 1, 2, 3, 4, 5, 19], 42⟩ ?_; ((conv => whnf); repeat (refine Gq ?_; (conv => whnf)))
      (refine And.intro (by decide +kernel) ?_; apply Exists.intro; apply And.intro; focus ((repeat' ((conv => whnf); first | exact trivial | refine Wo ?_ | refine Lt (by decide) ?_ | refine Lf (by decide) ?_ | refine Cl (by decide) ?_ | refine Cr (by decide) ?_ | refine Both.mk ?_ ?_ | (first | exact Wk.frc (keep := [0, 1, 2, 3, 4, 5, 19]) (N := 42) (by (conv => whnf); first | done | exact rfl) | (refine HrA h1 ?_)) | refine ⟨_, rfl, ?_⟩ | refine Mi rfl ?_ | (refine And.intro ?_ ?_))); all_goals (first | decide | rfl | assumption | omega | (dsimp only; omega) | (unfold maxLen; omega) | ((try dsimp only [maxLen]); simp only [List.length_append, List.length_cons, List.length_nil, List.length_map, List.length_range, List.length_set, List.length_replicate]; omega) | ((try dsimp only [maxLen]); simp only [IntKind.wrap_i64, IntKind.wrap_u64, List.length_append, List.length_cons, List.length_nil, List.length_map, List.length_range, List.length_set, List.length_replicate]; omega) | ((try dsimp only [maxLen]); simp only [List.length_append, List.length_cons, List.length_nil, List.length_map, List.length_range, List.length_set, List.length_replicate] at *; omega))))
      ((conv => whnf); repeat (refine Gq ?_; (conv => whnf)))
      exact TeA
  have hc := compareM_runs x y (by omega)
  have one : x < y → ∀ a, Runs Tryz.prog 152 [wD x a, wD y (!a)] (wD (y - x) (!a)) := by
    intro hlt a
    have h1 := less_runs (mg y) (mg x) (pt_mg y) (pt_mg x) (by omega) (by omega) (by rw [mv_mg, mv_mg]; omega)
    rw [mv_mg, mv_mg] at h1
    rw [show cmpN x y = -1 by unfold cmpN; rw [if_pos hlt]] at hc
    cases a
    all_goals
      refine Runs.wp Am.hT Am.hm Tryz.func152 rfl (by decide) ⟨[(2, .first 0 (.first 2 (.first 5 (.load 1 [4, 7, 8] (.load 3 [4, 7, 8] (.alt 4 (.load 6 [7, 8] (.first 7 (.alt 8 .done .nil))) (.alt 6 (.alt 4 (.first 7 (.alt 8 .done .nil)) .nil) .nil))))))), (4, .first 0 (.first 2 (.first 5 (.load 1 [4, 7, 8] (.load 3 [4, 7, 8] (.alt 4 (.load 6 [7, 8] (.first 7 (.alt 8 .done .nil))) (.alt 6 (.alt 4 (.first 7 (.alt 8 .done .nil)) .nil) .nil))))))), (5, .first 0 (.first 2 (.first 5 (.load 1 [4, 7, 8] (.load 3 [4, 7, 8] (.alt 4 (.load 6 [7, 8] (.first 7 (.alt 8 .done .nil))) (.alt 6 (.alt 4 (.first 7 (.alt 8 .done .nil)) .nil) .nil)))))))], [0, 1, 2, 3, 4, 5, 19], 42⟩ ?_; ((conv => whnf); repeat (refine Gq ?_; (conv => whnf)))
      ((conv => whnf); (refine HfA hc ?_); ((conv => whnf); repeat (refine Gq ?_; (conv => whnf))))
      (refine And.intro (by decide +kernel) ?_; apply Exists.intro; apply And.intro; focus ((repeat' ((conv => whnf); first | exact trivial | refine Wo ?_ | refine Lt (by decide) ?_ | refine Lf (by decide) ?_ | refine Cl (by decide) ?_ | refine Cr (by decide) ?_ | refine Both.mk ?_ ?_ | (first | exact Wk.frc (keep := [0, 1, 2, 3, 4, 5, 19]) (N := 42) (by (conv => whnf); first | done | exact rfl) | (refine HrA h1 ?_)) | refine ⟨_, rfl, ?_⟩ | refine Mi rfl ?_ | (refine And.intro ?_ ?_))); all_goals (first | decide | rfl | assumption | omega | (dsimp only; omega) | (unfold maxLen; omega) | ((try dsimp only [maxLen]); simp only [List.length_append, List.length_cons, List.length_nil, List.length_map, List.length_range, List.length_set, List.length_replicate]; omega) | ((try dsimp only [maxLen]); simp only [IntKind.wrap_i64, IntKind.wrap_u64, List.length_append, List.length_cons, List.length_nil, List.length_map, List.length_range, List.length_set, List.length_replicate]; omega) | ((try dsimp only [maxLen]); simp only [List.length_append, List.length_cons, List.length_nil, List.length_map, List.length_range, List.length_set, List.length_replicate] at *; omega))))
      ((conv => whnf); repeat (refine Gq ?_; (conv => whnf)))
      exact TeA
  have two : ¬ x < y → ∀ a, Runs Tryz.prog 152 [wD x a, wD y (!a)] (wD (x - y) a) := by
    intro hlt a
    have h1 := less_runs (mg x) (mg y) (pt_mg x) (pt_mg y) (by omega) (by omega) (by rw [mv_mg, mv_mg]; omega)
    rw [mv_mg, mv_mg] at h1
    have hc0 : decide (cmpN x y < 0) = false := by
      rw [decide_eq_false_iff_not]
      unfold cmpN
      rw [if_neg hlt]
      split <;> omega
    cases a
    all_goals
      refine Runs.wp Am.hT Am.hm Tryz.func152 rfl (by decide) ⟨[(2, .first 0 (.first 2 (.first 5 (.load 1 [4, 7, 8] (.load 3 [4, 7, 8] (.alt 4 (.load 6 [7, 8] (.first 7 (.alt 8 .done .nil))) (.alt 6 (.alt 4 (.first 7 (.alt 8 .done .nil)) .nil) .nil))))))), (4, .first 0 (.first 2 (.first 5 (.load 1 [4, 7, 8] (.load 3 [4, 7, 8] (.alt 4 (.load 6 [7, 8] (.first 7 (.alt 8 .done .nil))) (.alt 6 (.alt 4 (.first 7 (.alt 8 .done .nil)) .nil) .nil))))))), (5, .first 0 (.first 2 (.first 5 (.load 1 [4, 7, 8] (.load 3 [4, 7, 8] (.alt 4 (.load 6 [7, 8] (.first 7 (.alt 8 .done .nil))) (.alt 6 (.alt 4 (.first 7 (.alt 8 .done .nil)) .nil) .nil)))))))], [0, 1, 2, 3, 4, 5, 19], 42⟩ ?_; ((conv => whnf); repeat (refine Gq ?_; (conv => whnf)))
      ((conv => whnf); (refine HfA hc ?_); ((conv => whnf); repeat (refine Gq ?_; (conv => whnf))))
      refine Lf hc0 ?_
      ((conv => whnf); repeat (refine Gq ?_; (conv => whnf)))
      (refine And.intro (by decide +kernel) ?_; apply Exists.intro; apply And.intro; focus ((repeat' ((conv => whnf); first | exact trivial | refine Wo ?_ | refine Lt (by decide) ?_ | refine Lf (by decide) ?_ | refine Cl (by decide) ?_ | refine Cr (by decide) ?_ | refine Both.mk ?_ ?_ | (first | exact Wk.frc (keep := [0, 1, 2, 3, 4, 5, 19]) (N := 42) (by (conv => whnf); first | done | exact rfl) | (refine HrA h1 ?_)) | refine ⟨_, rfl, ?_⟩ | refine Mi rfl ?_ | (refine And.intro ?_ ?_))); all_goals (first | decide | rfl | assumption | omega | (dsimp only; omega) | (unfold maxLen; omega) | ((try dsimp only [maxLen]); simp only [List.length_append, List.length_cons, List.length_nil, List.length_map, List.length_range, List.length_set, List.length_replicate]; omega) | ((try dsimp only [maxLen]); simp only [IntKind.wrap_i64, IntKind.wrap_u64, List.length_append, List.length_cons, List.length_nil, List.length_map, List.length_range, List.length_set, List.length_replicate]; omega) | ((try dsimp only [maxLen]); simp only [List.length_append, List.length_cons, List.length_nil, List.length_map, List.length_range, List.length_set, List.length_replicate] at *; omega))))
      ((conv => whnf); repeat (refine Gq ?_; (conv => whnf)))
      exact TeA
  unfold plusW
  by_cases h : (a == b) = true
  · rw [if_pos h, ← show a = b by simpa using h]
    exact same a
  · rw [if_neg h, show b = !a by cases a <;> cases b <;> simp at h ⊢]
    by_cases hlt : x < y
    · rw [if_pos hlt]; exact one hlt a
    · rw [if_neg hlt]; exact two hlt a
theorem told_runs (n : Nat) (b : Bool) (hn : (mg n).length ≤ 1000000) : Runs Tryz.prog 197 [wD n b] (.tup [sD (told (sv n b)).1, iD (told (sv n b)).2]) := by
  have hm := may_runs (itoa (sv n b))
  rw [may_iff] at hm
  have hlen : decide (((mg n).length : Int) > 0) = decide (n ≠ 0) := by
    by_cases h0 : n = 0
    · subst h0; rw [mg_zero]; rfl
    · rw [mg_pos h0, decide_eq_true h0]
      simp
  have ht := text_runs n (b && decide (n ≠ 0)) (fun h => by simpa using (Bool.and_eq_true_iff.1 h).2) hn
  have hs : sv n (b && decide (n ≠ 0)) = sv n b := by
    by_cases h0 : n = 0
    · subst h0; cases b <;> rfl
    · simp [h0]
  rw [hs] at ht
  have go : ∀ c : Bool, decide (Nm.Sm (sv n b)) = c → Runs Tryz.prog 197 [wD n b] (if c = true then .tup [sD (numS (sv n b)), iD 0] else .tup [sD (BA []), iD 8]) := by
    intro c hc
    rw [hc] at hm
    cases b with
    | false =>
      cases c with
      | true =>
        refine Runs.wp Am.hT Am.hm Tryz.func197 rfl (by decide) ⟨[], [0, 1, 2, 3, 4, 18], 20⟩ ?_; ((conv => whnf); repeat (refine Gq ?_; (conv => whnf)))
        ((conv => whnf); (refine HfA ht ?_); ((conv => whnf); repeat (refine Gq ?_; (conv => whnf))))
        ((conv => whnf); (refine HfA hm ?_); ((conv => whnf); repeat (refine Gq ?_; (conv => whnf))))
        exact TeA
      | false =>
        refine Runs.wp Am.hT Am.hm Tryz.func197 rfl (by decide) ⟨[], [0, 1, 2, 3, 4, 18], 20⟩ ?_; ((conv => whnf); repeat (refine Gq ?_; (conv => whnf)))
        ((conv => whnf); (refine HfA ht ?_); ((conv => whnf); repeat (refine Gq ?_; (conv => whnf))))
        ((conv => whnf); (refine HfA hm ?_); ((conv => whnf); repeat (refine Gq ?_; (conv => whnf))))
        exact TeA
    | true =>
      rw [Bool.true_and] at ht
      cases c with
      | true =>
        refine Runs.wp Am.hT Am.hm Tryz.func197 rfl (by decide) ⟨[], [0, 1, 2, 3, 4, 18], 20⟩ ?_; ((conv => whnf); repeat (refine Gq ?_; (conv => whnf)))
        refine litE hlen ?_
        ((conv => whnf); repeat (refine Gq ?_; (conv => whnf)))
        ((conv => whnf); (refine HfA ht ?_); ((conv => whnf); repeat (refine Gq ?_; (conv => whnf))))
        ((conv => whnf); (refine HfA hm ?_); ((conv => whnf); repeat (refine Gq ?_; (conv => whnf))))
        exact TeA
      | false =>
        refine Runs.wp Am.hT Am.hm Tryz.func197 rfl (by decide) ⟨[], [0, 1, 2, 3, 4, 18], 20⟩ ?_; ((conv => whnf); repeat (refine Gq ?_; (conv => whnf)))
        refine litE hlen ?_
        ((conv => whnf); repeat (refine Gq ?_; (conv => whnf)))
        ((conv => whnf); (refine HfA ht ?_); ((conv => whnf); repeat (refine Gq ?_; (conv => whnf))))
        ((conv => whnf); (refine HfA hm ?_); ((conv => whnf); repeat (refine Gq ?_; (conv => whnf))))
        exact TeA
  have := go _ rfl
  unfold told
  by_cases h : Nm.Sm (sv n b)
  · rw [decide_eq_true h, if_pos rfl] at this
    rw [if_pos (show (sv n b).natAbs < 10 ^ 100 from h)]
    exact this
  · rw [decide_eq_false h, if_neg (by decide)] at this
    rw [if_neg (show ¬ (sv n b).natAbs < 10 ^ 100 from h)]
    exact this
end Go.Proofs.YtkhgpnbhnipndaaGreatDoor.Am
end
