/- What the law leans on, part 35: declarations of several texts of ours, in their order. -/
import Derived.Test.YtcpaajecppplhaaGreatDoorXT17
import Derived.Test.YtcpaajecppplhaaGreatDoorXT32
import Derived.Test.YtcpaajecppplhaaGreatDoorXT33
section
/- The text of an array, and the array of a text, plainly: what is told is read, just as it was; what is read has the very text. -/
namespace Go.Proofs.YtcpaajecppplhaaGreatDoor.Tx
open Go.Lib Go.Proofs.YtcpaajecppplhaaGreatDoor.Nm Go.Proofs.YtcpaajecppplhaaGreatDoor.Sh
set_option linter.unusedVariables false
set_option linter.unusedSimpArgs false
abbrev L8 := List UInt8
/-- a number as a part -/
def lit : L8 → L8
  | [] => []
  | c :: r => if c.toNat = 45 then 95 :: r else c :: r
/-- what stands behind the low mark -/
def low : L8 → L8
  | [] => []
  | c :: r => if c.toNat = 95 then r else c :: r
def unl : L8 → L8
  | [] => []
  | c :: r => if c.toNat = 95 then 45 :: r else c :: r
/-- a part as a number -/
def prs (p : L8) : Option L8 := if (low p).all digB = true ∧ mayL (unl p) = true then some (unl p) else none
theorem may_cases {l : L8} (h : mayL l = true) : (∃ r, l = 45 :: r ∧ Dig r ∧ r ≠ []) ∨ (Dig l ∧ ∃ c r, l = c :: r ∧ c.toNat ≠ 45 ∧ c.toNat ≠ 95) := by
  obtain ⟨z, rfl, hz⟩ := num_of_may l h
  by_cases hn : z < 0
  · rw [itoa_neg' hn]
    exact .inl ⟨_, rfl, dig_decDigits _, decDigits_ne _⟩
  · rw [itoa_pos' hn]
    obtain ⟨c, r, e, h1, h2⟩ := head_dec z.natAbs
    exact .inr ⟨dig_decDigits _, c, r, e, by omega, by omega⟩
theorem prs_lit {l : L8} (h : mayL l = true) : prs (lit l) = some l := by
  unfold prs
  rcases may_cases h with ⟨r, rfl, hd, hne⟩ | ⟨hd, c, r, rfl, h1, h2⟩
  · have e1 : lit (45 :: r) = 95 :: r := rfl
    have e2 : low (95 :: r) = r := rfl
    have e3 : unl (95 :: r) = 45 :: r := rfl
    rw [e1, e2, e3, if_pos ⟨(all_dig r).mpr hd, h⟩]
  · have e1 : lit (c :: r) = c :: r := if_neg h1
    have e2 : low (c :: r) = c :: r := if_neg h2
    have e3 : unl (c :: r) = c :: r := if_neg h2
    rw [e1, e2, e3, if_pos ⟨(all_dig _).mpr hd, h⟩]
theorem prs_some {p n : L8} (h : prs p = some n) : lit n = p ∧ mayL n = true := by
  unfold prs at h
  split at h
  · rename_i hc
    obtain ⟨hd, hm⟩ := hc
    cases h
    refine ⟨?_, hm⟩
    cases p with
    | nil => exact absurd hm (by decide)
    | cons c r =>
      by_cases hc : c.toNat = 95
      · have e3 : unl (c :: r) = 45 :: r := if_pos hc
        rw [e3]
        have e1 : lit (45 :: r) = 95 :: r := rfl
        rw [e1, show c = 95 from UInt8.toNat_inj.mp hc]
      · have e3 : unl (c :: r) = c :: r := if_neg hc
        have e2 : low (c :: r) = c :: r := if_neg hc
        rw [e2] at hd
        have := (all_dig _).mp hd c (by simp)
        rw [e3]
        exact if_neg (by omega)
  · cases h
/-- the letters of a part -/
theorem lit_mem {l : L8} (h : mayL l = true) : ∀ c ∈ lit l, c.toNat = 95 ∨ (48 ≤ c.toNat ∧ c.toNat ≤ 57) := by
  rcases may_cases h with ⟨r, rfl, hd, hne⟩ | ⟨hd, c, r, rfl, h1, h2⟩
  · have e1 : lit (45 :: r) = 95 :: r := rfl
    rw [e1]
    intro c hc
    rcases List.mem_cons.mp hc with rfl | hc
    · exact .inl rfl
    · exact .inr (hd c hc)
  · have e1 : lit (c :: r) = c :: r := if_neg h1
    rw [e1]
    intro x hx
    exact .inr (hd x hx)
theorem lit_ne {l : L8} (h : mayL l = true) : ∃ c r, lit l = c :: r ∧ (c.toNat = 95 ∨ (48 ≤ c.toNat ∧ c.toNat ≤ 57)) := by
  cases e : lit l with
  | nil =>
    rcases may_cases h with ⟨r, rfl, hd, hne⟩ | ⟨hd, c, r, rfl, h1, h2⟩
    · rw [show lit (45 :: r) = 95 :: r from rfl] at e; cases e
    · rw [show lit (c :: r) = c :: r from if_neg h1] at e; cases e
  | cons c r => exact ⟨c, r, rfl, lit_mem h c (by rw [e]; simp)⟩
theorem lit_free {l : L8} (h : mayL l = true) (c : UInt8) (hc : c.toNat < 48) : c ∉ lit l := fun hm => by
  have := lit_mem h c hm
  omega
def rowT (e : List L8) : L8 := jn 32 (e.map lit)
def vecT : List L8 → L8
  | [] => [33, 48]
  | [x] => 44 :: lit x
  | e => rowT e
def textT (s : List Int) (e : List L8) : L8 :=
  match s with
  | [] => rowT e
  | [_] => vecT e
  | s => rowT (s.map itoa) ++ 35 :: vecT e
def AllM (e : List L8) : Prop := ∀ x ∈ e, mayL x = true
theorem jn_free (c d : UInt8) (hd : c ≠ d) : ∀ xs : List L8, (∀ x ∈ xs, c ∉ x) → c ∉ jn d xs
  | [], _ => by simp [jn]
  | [x], h => h x (by simp)
  | x :: y :: r, h => by
    rw [jn_cons d x (by simp)]
    intro hm
    rcases List.mem_append.mp hm with hm | hm
    · exact h x (by simp) hm
    · rcases List.mem_cons.mp hm with hm | hm
      · exact hd hm
      · exact jn_free c d hd (y :: r) (fun z hz => h z (by simp [hz])) hm
theorem row_free (e : List L8) (h : AllM e) (c : UInt8) (hc : c.toNat < 48) (h32 : c ≠ 32) : c ∉ rowT e :=
  jn_free c 32 h32 _ (fun x hx => by
    obtain ⟨y, hy, rfl⟩ := List.mem_map.mp hx
    exact lit_free (h y hy) c hc)
theorem jn_head (d : UInt8) (x : L8) (xs : List L8) (c : UInt8) (r : L8) (h : x = c :: r) : ∃ r', jn d (x :: xs) = c :: r' := by
  subst h
  cases xs with
  | nil => exact ⟨r, rfl⟩
  | cons y ys => exact ⟨_, rfl⟩
theorem row_head (e : List L8) (h : AllM e) (hne : e ≠ []) : ∃ c r, rowT e = c :: r ∧ (c.toNat = 95 ∨ (48 ≤ c.toNat ∧ c.toNat ≤ 57)) := by
  cases e with
  | nil => exact absurd rfl hne
  | cons x xs =>
    obtain ⟨c, r, e1, h1⟩ := lit_ne (h x (by simp))
    obtain ⟨r', e2⟩ := jn_head 32 (lit x) (xs.map lit) c r e1
    exact ⟨c, r', e2, h1⟩
/-! ### reading -/
def numsR (t : L8) : Option (List L8) := (spl 32 t).mapM prs
theorem mapM_lit : ∀ e : List L8, AllM e → (e.map lit).mapM prs = some e
  | [], _ => rfl
  | x :: e, h => by
    rw [List.map_cons, List.mapM_cons, prs_lit (h x (by simp)), mapM_lit e (fun y hy => h y (by simp [hy]))]
    rfl
theorem mapM_back : ∀ (ps : List L8) (l : List L8), ps.mapM prs = some l → l.map lit = ps ∧ AllM l
  | [], l, h => by
    cases h
    exact ⟨rfl, fun x hx => by cases hx⟩
  | p :: ps, l, h => by
    rw [List.mapM_cons] at h
    cases h1 : prs p with
    | none => rw [h1] at h; cases h
    | some n =>
      cases h2 : ps.mapM prs with
      | none => rw [h1, h2] at h; cases h
      | some m =>
        rw [h1, h2] at h
        cases h
        obtain ⟨e1, e2⟩ := prs_some h1
        obtain ⟨f1, f2⟩ := mapM_back ps m h2
        refine ⟨by rw [List.map_cons, e1, f1], fun x hx => ?_⟩
        rcases List.mem_cons.mp hx with rfl | hx
        · exact e2
        · exact f2 x hx
theorem nums_row {e : List L8} (h : AllM e) (hne : e ≠ []) : numsR (rowT e) = some e := by
  unfold numsR rowT
  rw [spl_jn 32 _ (by simpa using hne) (fun x hx => by
    obtain ⟨y, hy, rfl⟩ := List.mem_map.mp hx
    exact lit_free (h y hy) 32 (by decide))]
  exact mapM_lit e h
theorem nums_some {t : L8} {l : List L8} (h : numsR t = some l) : l ≠ [] ∧ rowT l = t ∧ AllM l := by
  obtain ⟨h1, h2⟩ := mapM_back _ l h
  refine ⟨fun e => ?_, ?_, h2⟩
  · rw [e] at h1
    exact spl_ne 32 t h1.symm
  · unfold rowT
    rw [h1, jn_spl]
def trimC (c : UInt8) : L8 → L8
  | [] => []
  | b :: r => if b = c then r else b :: r
def flatR (t : L8) : Option (List Int × List L8) :=
  if t = [33, 48] then some ([0], []) else
    match numsR (trimC 44 t) with
    | none => none
    | some l => if (trimC 44 t ≠ t ∧ 1 < l.length) ∨ 4096 < l.length then none else if trimC 44 t = t ∧ l.length = 1 then some ([], l) else some ([(l.length : Int)], l)
theorem trim_other {c b : UInt8} {r : L8} (h : b ≠ c) : trimC c (b :: r) = b :: r := if_neg h
theorem trim_hit (c : UInt8) (r : L8) : trimC c (c :: r) = r := if_pos rfl
theorem ne_self (c : UInt8) (r : L8) : r ≠ c :: r := fun e => by have := congrArg List.length e; simp at this
theorem flat_row {e : List L8} (h : AllM e) (hne : e ≠ []) (hl : e.length ≤ 4096) : flatR (rowT e) = if e.length = 1 then some ([], e) else some ([(e.length : Int)], e) := by
  obtain ⟨c, r, e1, h1⟩ := row_head e h hne
  have hn := nums_row h hne
  have h44 : c ≠ 44 := fun e => by subst e; revert h1; decide
  have ht : trimC 44 (rowT e) = rowT e := by rw [e1]; exact trim_other h44
  unfold flatR
  rw [if_neg (by rw [e1]; intro e2; injection e2 with e2 _; subst e2; revert h1; decide), ht, hn]
  simp only
  rw [if_neg (by rintro (⟨h, _⟩ | h); exact h rfl; omega)]
  by_cases h2 : e.length = 1
  · rw [if_pos (show True ∧ e.length = 1 from ⟨trivial, h2⟩), if_pos h2]
  · rw [if_neg (fun x => h2 x.2), if_neg h2]
theorem flat_vec (e : List L8) (h : AllM e) (hl : e.length ≤ 4096) : flatR (vecT e) = some ([(e.length : Int)], e) := by
  match e, h, hl with
  | [], _, _ => rfl
  | [x], h, _ =>
    have hx := h x (by simp)
    obtain ⟨c, r, e1, h1⟩ := lit_ne hx
    have hn : numsR (lit x) = some [x] := nums_row (e := [x]) h (by simp)
    show flatR (44 :: lit x) = _
    unfold flatR
    rw [if_neg (by intro e2; injection e2 with e2 _; revert e2; decide), trim_hit, hn]
    simp only
    rw [if_neg (by rintro (⟨_, h⟩ | h) <;> simp at h), if_neg (fun e => ne_self _ _ e.1)]
  | x :: y :: r, h, hl =>
    show flatR (rowT (x :: y :: r)) = _
    rw [flat_row h (by simp) hl, if_neg (by simp)]
theorem flat_some {t : L8} {s : List Int} {e : List L8} (h : flatR t = some (s, e)) : AllM e ∧ ((s = [] ∧ e.length = 1 ∧ t = rowT e) ∨ (s = [(e.length : Int)] ∧ e.length ≤ 4096 ∧ t = vecT e)) := by
  unfold flatR at h
  by_cases h0 : t = [33, 48]
  · rw [if_pos h0] at h
    cases h
    exact ⟨fun x hx => (by cases hx), .inr ⟨rfl, by simp, h0⟩⟩
  · rw [if_neg h0] at h
    cases hn : numsR (trimC 44 t) with
    | none => rw [hn] at h; cases h
    | some l =>
      rw [hn] at h
      simp only at h
      obtain ⟨h1, h2, h3⟩ := nums_some hn
      by_cases hb : (trimC 44 t ≠ t ∧ 1 < l.length) ∨ 4096 < l.length
      · rw [if_pos hb] at h; cases h
      · rw [if_neg hb] at h
        have hlen : 0 < l.length := List.length_pos_iff.mpr h1
        by_cases hc : trimC 44 t = t ∧ l.length = 1
        · rw [if_pos hc] at h
          simp only [Option.some.injEq, Prod.mk.injEq] at h
          obtain ⟨rfl, rfl⟩ := h
          exact ⟨h3, .inl ⟨rfl, hc.2, by rw [h2, hc.1]⟩⟩
        · rw [if_neg hc] at h
          simp only [Option.some.injEq, Prod.mk.injEq] at h
          obtain ⟨rfl, rfl⟩ := h
          refine ⟨h3, .inr ⟨rfl, by omega, ?_⟩⟩
          by_cases ht : trimC 44 t = t
          · have hl1 : l.length ≠ 1 := fun e => hc ⟨ht, e⟩
            rw [ht] at h2
            match l, hl1, hlen, h2 with
            | [x], hl1, _, _ => exact absurd rfl hl1
            | x :: y :: r, _, _, h2 => exact h2.symm
          · have hl1 : l.length = 1 := by
              have h5 : ¬ 1 < l.length := fun q => hb (.inl ⟨ht, q⟩)
              omega
            obtain ⟨x, rfl⟩ := List.length_eq_one_iff.mp hl1
            cases t with
            | nil => exact absurd rfl ht
            | cons b r =>
              by_cases hb2 : b = 44
              · subst hb2
                rw [trim_hit] at h2
                show 44 :: r = 44 :: lit x
                rw [← h2]
                rfl
              · exact absurd (trim_other hb2) ht
/-- an array that may be -/
def Good (s : List Int) (e : List L8) : Prop := sizeS s = ((e.length : Int), 0) ∧ AllM e
def intR (l : L8) : Option Int := if mayL l = true then (match parseIntB 64 l with | .ok v => some v | _ => none) else none
theorem int_itoa {z : Int} (h : i64P z) : intR (itoa z) = some z := by
  unfold intR
  rw [if_pos (may_num z (sm_i64 h.1 h.2)), parse_itoa, if_pos h]
theorem int_some {l : L8} {z : Int} (h : intR l = some z) : l = itoa z ∧ i64P z := by
  unfold intR at h
  split at h
  · rename_i hm
    obtain ⟨y, rfl, _⟩ := num_of_may l hm
    rw [parse_itoa] at h
    split at h
    · rename_i v hv
      split at hv
      · cases hv
        cases h
        rename_i hi
        exact ⟨rfl, hi⟩
      · cases hv
    · cases h
  · cases h
theorem mapM_int : ∀ s : List Int, (∀ x ∈ s, i64P x) → (s.map itoa).mapM intR = some s
  | [], _ => rfl
  | x :: s, h => by
    rw [List.map_cons, List.mapM_cons, int_itoa (h x (by simp)), mapM_int s (fun y hy => h y (by simp [hy]))]
    rfl
theorem mapM_int_back : ∀ (l : List L8) (s : List Int), l.mapM intR = some s → l = s.map itoa
  | [], s, h => by cases h; rfl
  | p :: l, s, h => by
    rw [List.mapM_cons] at h
    cases h1 : intR p with
    | none => rw [h1] at h; cases h
    | some z =>
      cases h2 : l.mapM intR with
      | none => rw [h1, h2] at h; cases h
      | some m =>
        rw [h1, h2] at h
        cases h
        rw [List.map_cons, ← mapM_int_back l m h2, (int_some h1).1]
def axesR (l : List L8) : Option (List Int) := (l.mapM intR).bind fun s => if 1 < s.length ∧ (sizeS s).2 = 0 then some s else none
def readR (t : L8) : Option (List Int × List L8) :=
  if (cut t [35]).2.2 = true then
    match axesR ((numsR (cut t [35]).1).getD []), flatR (cut t [35]).2.1 with
    | some x, some v => if v.1.length = 1 ∧ (v.2.length : Int) = (sizeS x).1 then some (x, v.2) else none
    | _, _ => none
  else flatR t
theorem size_bd {s : List Int} {n : Int} (h : sizeS s = (n, 0)) : (∀ x ∈ s, i64P x) ∧ 0 ≤ n ∧ n ≤ 4096 := by
  obtain ⟨_, h1, h2⟩ := size_ok h
  refine ⟨fun x hx => ⟨by have := h1 x hx; omega, by have := h1 x hx; omega⟩, ?_⟩
  rcases h2 with ⟨_, h2⟩ | ⟨_, _, h3, h4⟩ <;> omega
theorem size_one {n : Int} (h0 : 0 ≤ n) (h1 : n ≤ 4096) : sizeS [n] = (n, 0) := by
  unfold sizeS
  rw [if_neg (by simp), if_neg (by simp; omega), if_neg (by simp; omega)]
  by_cases h : n = 0
  · subst h; rfl
  · rw [if_neg (by simp; omega)]
    show fin (n * 1) = _
    rw [Int.mul_one]
    exact fin_le h1
theorem size_one_inv {n m : Int} (h : sizeS [n] = (m, 0)) : n = m := by
  obtain ⟨_, h1, h2⟩ := size_ok h
  rcases h2 with ⟨⟨x, hx, h0⟩, h2⟩ | ⟨_, h2, _⟩
  · simp only [List.mem_cons, List.not_mem_nil, or_false] at hx
    omega
  · rw [h2]
    show n = n * 1
    omega
theorem cut_free {t : L8} (h : (35 : UInt8) ∉ t) : (cut t [35]).2.2 = false := by
  rcases cut_spl t 35 with ⟨e, _⟩ | ⟨x, r, rfl, _⟩
  · rw [e]
  · exact absurd (by simp) h
theorem vec_free (e : List L8) (h : AllM e) : (35 : UInt8) ∉ vecT e := by
  match e, h with
  | [], _ => decide
  | [x], h =>
    show (35 : UInt8) ∉ (44 :: lit x)
    intro hm
    rcases List.mem_cons.mp hm with hm | hm
    · revert hm; decide
    · exact lit_free (h x (by simp)) 35 (by decide) hm
  | x :: y :: r, h => exact row_free _ h 35 (by decide) (by decide)
theorem axes_may {s : List Int} (h : ∀ x ∈ s, i64P x) : AllM (s.map itoa) := fun x hx => by
  obtain ⟨z, hz, rfl⟩ := List.mem_map.mp hx
  exact may_num z (sm_i64 (h z hz).1 (h z hz).2)
/-- what is told is read, just as it was -/
theorem read_text {s : List Int} {e : List L8} (h : Good s e) : readR (textT s e) = some (s, e) := by
  obtain ⟨hs, hm⟩ := h
  obtain ⟨hb, hn0, hn1⟩ := size_bd hs
  have hl : e.length ≤ 4096 := by omega
  match s, hs, hb with
  | [], hs, _ =>
    have h1 : e.length = 1 := by
      have : sizeS [] = (1, 0) := rfl
      rw [this] at hs
      injection hs with hs _
      omega
    have hne : e ≠ [] := fun x => by rw [x] at h1; simp at h1
    show readR (rowT e) = _
    unfold readR
    rw [cut_free (row_free e hm 35 (by decide) (by decide)), if_neg (by decide), flat_row hm hne hl, if_pos h1]
  | [n], hs, _ =>
    have h1 := size_one_inv hs
    show readR (vecT e) = _
    unfold readR
    rw [cut_free (vec_free e hm), if_neg (by decide), flat_vec e hm hl, h1]
  | a :: b :: s, hs, hb =>
    show readR (rowT ((a :: b :: s).map itoa) ++ 35 :: vecT e) = _
    have hma := axes_may hb
    have hc : cut (rowT ((a :: b :: s).map itoa) ++ 35 :: vecT e) [35] = (rowT ((a :: b :: s).map itoa), vecT e, true) := by
      rcases cut_spl (rowT ((a :: b :: s).map itoa) ++ 35 :: vecT e) 35 with ⟨_, hf⟩ | ⟨x, r, e1, hx, e2⟩
      · exact absurd (by simp) hf
      · rw [e2]
        have hf := row_free _ hma 35 (by decide) (by decide)
        have g1 := spl_app 35 _ (vecT e) hf
        have g2 := spl_app 35 x r hx
        rw [e1] at g1
        rw [g1] at g2
        rw [spl_free 35 _ (vec_free e hm)] at g2
        injection g2 with g2 g3
        have : jn 35 (spl 35 r) = jn 35 [vecT e] := by rw [← g3]
        rw [jn_spl] at this
        rw [this, ← g2]
        rfl
    unfold readR
    rw [hc]
    simp only [if_true]
    rw [nums_row hma (by simp), Option.getD_some]
    have hax : axesR ((a :: b :: s).map itoa) = some (a :: b :: s) := by
      unfold axesR
      rw [mapM_int _ hb]
      exact if_pos ⟨by simp, by rw [hs]⟩
    rw [hax, flat_vec e hm hl]
    simp only
    rw [if_pos ⟨rfl, by rw [hs]⟩]
/-- what is read may be, and has the very text -/
theorem text_read {t : L8} {s : List Int} {e : List L8} (h : readR t = some (s, e)) : Good s e ∧ textT s e = t := by
  unfold readR at h
  rcases cut_spl t 35 with ⟨hc, hf⟩ | ⟨x, r, rfl, hx, hc⟩
  · rw [hc, if_neg Bool.false_ne_true] at h
    obtain ⟨hm, ⟨rfl, h1, h2⟩ | ⟨rfl, h1, h2⟩⟩ := flat_some h
    · exact ⟨⟨by rw [h1]; rfl, hm⟩, h2.symm⟩
    · exact ⟨⟨size_one (by omega) (by omega), hm⟩, h2.symm⟩
  · rw [hc] at h
    simp only [if_true] at h
    cases ha : axesR ((numsR x).getD []) with
    | none => rw [ha] at h; cases h
    | some y =>
      cases hv : flatR r with
      | none => rw [ha, hv] at h; cases h
      | some v =>
        rw [ha, hv] at h
        simp only at h
        split at h
        · rename_i hz
          simp only [Option.some.injEq, Prod.mk.injEq] at h
          obtain ⟨rfl, rfl⟩ := h
          obtain ⟨v1, v2⟩ := v
          obtain ⟨hz1, hz2⟩ := hz
          have ha2 := ha
          unfold axesR at ha2
          cases hi : ((numsR x).getD []).mapM intR with
          | none => rw [hi] at ha2; cases ha2
          | some s' =>
            rw [hi] at ha2
            simp only [Option.bind_some] at ha2
            split at ha2
            · rename_i hy
              have e0 := Option.some.inj ha2
              subst e0
              have e1 := mapM_int_back _ _ hi
              cases hn : numsR x with
              | none =>
                rw [hn] at e1
                have := congrArg List.length e1
                simp at this
                omega
              | some l =>
                rw [hn, Option.getD_some] at e1
                obtain ⟨_, g2, _⟩ := nums_some hn
                rw [e1] at g2
                obtain ⟨hm, ⟨rfl, _, _⟩ | ⟨rfl, h1, h2⟩⟩ := flat_some hv
                · simp at hz1
                · refine ⟨⟨Prod.ext hz2.symm hy.2, hm⟩, ?_⟩
                  match s', hy.1, g2 with
                  | a :: b :: s', _, g2 =>
                    show rowT ((a :: b :: s').map itoa) ++ 35 :: vecT v2 = _
                    rw [g2, h2]
            · cases ha2
        · cases h
end Go.Proofs.YtcpaajecppplhaaGreatDoor.Tx
end
