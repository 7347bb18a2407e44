/- What the law leans on, part 31: declarations of several texts of ours, in their order. -/
import Derived.Test.YtcpaajecppplhaaGreatDoorXN26
import Derived.Test.YtcpaajecppplhaaGreatDoorXN29
section
/- Reading and telling of numbers, plainly: num.read and whole.text at every number. -/
namespace Go.Proofs.YtcpaajecppplhaaGreatDoor.Nm
open Go.Lib Go.RowKit Go.Proofs.YtcpaajecppplhaaGreatDoorW.PrintWords Go.Proofs.YtcpaajecppplhaaGreatDoorW.PrintLast Go.Proofs.YtcpaajecppplhaaGreatDoor
set_option linter.unusedVariables false
set_option linter.unusedSimpArgs false
/-! ### read -/
theorem parse_part (l : List UInt8) (hd : Dig l) (hne : l ≠ []) (hl : l.length ≤ 9) : Hd.parseUint.f (BA l) 10 64 = some ((val l : Int), none) := by
  have hv : val l < 1000000000 := Nat.lt_of_lt_of_le (val_lt l hd) (Nat.le_trans (Nat.pow_le_pow_right (by decide) hl) (by decide))
  unfold Hd.parseUint.f
  rw [if_pos ⟨rfl, rfl, by rw [ba_size]; omega⟩, ba_data]
  have e : parseUintB 64 l = .ok (val l) := by
    unfold parseUintB
    rw [if_neg hne, parseM l hd 0 (by decide), Nat.zero_mul, Nat.zero_add, if_pos (by omega)]
  rw [e]
theorem ba_drop (l : List UInt8) (i : Nat) (hi : i ≤ l.length) : (BA l).extract i (BA l).size = BA (l.drop i) := by
  apply ByteArray.ext
  rw [ByteArray.data_extract]
  apply Array.ext'
  simp [BA, ByteArray.size]
  exact List.take_of_length_le (by simp)
theorem ba_take (l : List UInt8) (i : Nat) (hi : i ≤ l.length) : (BA l).extract 0 i = BA (l.take i) := by
  apply ByteArray.ext
  rw [ByteArray.data_extract]
  apply Array.ext'
  simp [BA]
theorem dig_drop {l : List UInt8} (h : Dig l) (i : Nat) : Dig (l.drop i) := fun c hc => h c (List.mem_of_mem_drop hc)
theorem dig_take {l : List UInt8} (h : Dig l) (i : Nat) : Dig (l.take i) := fun c hc => h c (List.mem_of_mem_take hc)
theorem val_split (l : List UInt8) (i : Nat) : val l = val (l.take i) * 10 ^ (l.length - i) + val (l.drop i) := by
  conv => lhs; rw [← List.take_append_drop i l]
  rw [val_append, List.length_drop]
theorem read_loop (z : Int) (hz : (itoa z).length ≤ 100000) : ∀ (e : Nat) (d : List UInt8) (m : List Nat), d.length ≤ e → d.length ≤ 100000 → m.length ≤ 100000 - d.length → Dig d → Pt m →
    Ev (fun k => K.num_read.l0 k (numS z) (BA d) (il m)) (il (mg (mv m + 1000000000 ^ m.length * val d)), decide (z < 0)) := by
  have hsz : (numS z).size = (itoa z).length := ba_size _
  have hpos : 0 < (itoa z).length := by
    by_cases h : z < 0
    · rw [itoa_neg' h]; simp
    · rw [itoa_pos' h]; exact List.length_pos_iff.mpr (decDigits_ne _)
  have hend : ∀ (m : List Nat), m.length ≤ 100000 → Pt m → Ev (fun k => K.num_read.l0 k (numS z) (BA []) (il m)) (il (mg (mv m)), decide (z < 0)) := by
    intro m hl hp
    refine Ev.step (fun k => ?_) (Ev.bind (f := fun k t => some (t, decide (z < 0))) (trimM_ev m (by omega) hp) (Ev.now _))
    simp only [K.num_read.l0]
    rw [if_neg (by rw [ba_size]; simp), hsz]
    have hl1 : ((itoa z).length : Int) > 0 := by omega
    have hl2 : (0 : Int) < ((itoa z).length : Int) := by omega
    simp only [hl1, hl2, if_true]
    have hb : (bt (numS z) 0 == 45) = decide (z < 0) := by
      by_cases h : z < 0
      · rw [numS_neg h, bt_head, decide_eq_true h]; rfl
      · obtain ⟨c, r, e, h1, h2⟩ := head_dec z.natAbs
        rw [numS_pos h, e, bt_head, decide_eq_false h]
        exact beq_eq_false_iff_ne.mpr (by omega)
    rw [hb]
  intro e
  induction e with
  | zero =>
    intro d m hd _ hl hdd hp
    have : d = [] := List.length_eq_zero_iff.mp (by omega)
    subst this
    rw [val_nil, Nat.mul_zero, Nat.add_zero]
    exact hend m (by omega) hp
  | succ e ih =>
    intro d m hd hd1 hl hdd hp
    by_cases hne : d = []
    · subst hne
      rw [val_nil, Nat.mul_zero, Nat.add_zero]
      exact hend m (by omega) hp
    · have hdl : 0 < d.length := List.length_pos_iff.mpr hne
      obtain ⟨a, ha⟩ : ∃ a, a = d.length - 9 := ⟨_, rfl⟩
      have hmx : mx (wrap64 ((d.length : Int) - 9)) 0 = (a : Int) := by
        rw [w64 (by omega) (by omega)]
        unfold mx
        split <;> omega
      have hpart := parse_part (d.drop a) (dig_drop hdd a) (by intro h; have := congrArg List.length h; simp at this; omega) (by simp; omega)
      have hv9 : val (d.drop a) < 1000000000 := by
        have h1 := val_lt (d.drop a) (dig_drop hdd a)
        rw [List.length_drop] at h1
        exact Nat.lt_of_lt_of_le h1 (Nat.le_trans (Nat.pow_le_pow_right (by decide) (show d.length - a ≤ 9 by omega)) (by decide))
      have hih := ih (d.take a) (m ++ [val (d.drop a)]) (by simp; omega) (by simp; omega) (by simp; omega) (dig_take hdd a) (pt_append hp (pt_one hv9))
      have hval : mv (m ++ [val (d.drop a)]) + 1000000000 ^ (m ++ [val (d.drop a)]).length * val (d.take a) = mv m + 1000000000 ^ m.length * val d := by
        rw [mv_snoc, val_split d a, List.length_append, List.length_cons, List.length_nil, Nat.zero_add, Nat.pow_succ]
        have hs : val (d.take a) * 10 ^ (d.length - a) = val (d.take a) * 1000000000 := by
          by_cases h9 : 9 ≤ d.length
          · rw [show d.length - a = 9 by omega]
          · have : a = 0 := by omega
            rw [this, List.take_zero, val_nil, Nat.zero_mul, Nat.zero_mul]
        rw [hs, Nat.mul_add, Nat.mul_assoc, Nat.mul_comm 1000000000 (val (d.take a))]
        omega
      rw [hval] at hih
      refine Ev.step (fun k => ?_) hih
      simp only [K.num_read.l0]
      rw [if_pos (by rw [ba_size]; omega), ba_size, hmx, if_pos (by omega), if_pos (by omega), Int.toNat_natCast]
      rw [← ba_size d, ba_drop d a (by omega), ba_take d a (by omega), hpart]
      simp only [Option.bind_some]
      rw [il_len, if_pos (by omega), il_append]
      rfl
def wh (z : Int) : List Int × Bool := (il (mg z.natAbs), decide (z < 0))
theorem read_ev (z : Int) (hz : nl z ≤ 1000) : Ev (fun k => K.num_read.f k (numS z)) (wh z) := by
  have hl := itoa_len z
  have h := read_loop z (by omega) _ (decDigits z.natAbs) [] (Nat.le_refl _) (by show nl z ≤ _; omega) (by simp) (dig_decDigits _) (fun _ h => by cases h)
  rw [mv, Nat.zero_add, List.length_nil, Nat.pow_zero, Nat.one_mul, val_decDigits] at h
  refine Ev.congr (fun k => ?_) h
  unfold K.num_read.f
  rw [show numS z = BA (itoa z) from rfl, trim_ev, body_itoa]
  rfl
/-! ### text -/
/-- the figures of parts, the highest ahead -/
def tx : List Nat → List UInt8
  | [] => []
  | [x] => decDigits x
  | x :: y :: l => tx (y :: l) ++ (List.replicate (9 - (decDigits x).length) 48 ++ decDigits x)
theorem dig_rep (n : Nat) : Dig (List.replicate n 48) := fun c hc => by rw [List.eq_of_mem_replicate hc]; decide
theorem dig_app {a b : List UInt8} (ha : Dig a) (hb : Dig b) : Dig (a ++ b) := fun c hc => by
  rcases List.mem_append.mp hc with h | h
  · exact ha c h
  · exact hb c h
theorem val_rep (n : Nat) (l : List UInt8) : val (List.replicate n 48 ++ l) = val l := by
  induction n with
  | zero => rfl
  | succ n ih =>
    rw [List.replicate_succ, List.cons_append, val_cons, ih]
    simp
theorem dec_len9 {x : Nat} (h : x < 1000000000) : (decDigits x).length ≤ 9 := len_le x 9 (by decide) h
theorem tx_dig : ∀ m : List Nat, Dig (tx m)
  | [] => fun _ h => by cases h
  | [x] => dig_decDigits x
  | x :: y :: l => dig_app (tx_dig (y :: l)) (dig_app (dig_rep _) (dig_decDigits x))
theorem tx_val : ∀ m : List Nat, Pt m → val (tx m) = mv m
  | [], _ => rfl
  | [x], _ => by rw [tx, val_decDigits]; simp [mv]
  | x :: y :: l, h => by
    have h9 := dec_len9 (h x (by simp))
    rw [tx, val_append, val_rep, val_decDigits, tx_val (y :: l) (fun z hz => h z (by simp at hz ⊢; exact .inr hz)), List.length_append, List.length_replicate, show 9 - (decDigits x).length + (decDigits x).length = 9 by omega]
    rw [show mv (x :: y :: l) = x + 1000000000 * mv (y :: l) from rfl]
    omega
theorem tx_head : ∀ m : List Nat, m ≠ [] → (∀ p x, m = p ++ [x] → x ≠ 0) → tx m ≠ [] ∧ ∀ c r, tx m = c :: r → c.toNat ≠ 48
  | [], h, _ => absurd rfl h
  | [x], _, h => ⟨decDigits_ne x, decDigits_head x (Nat.pos_of_ne_zero (h [] x rfl))⟩
  | x :: y :: l, _, h => by
    obtain ⟨h1, h2⟩ := tx_head (y :: l) (by simp) (fun p z e => h (x :: p) z (by rw [e]; rfl))
    rw [tx]
    cases ht : tx (y :: l) with
    | nil => exact absurd ht h1
    | cons c r =>
      refine ⟨by simp, fun c' r' e => ?_⟩
      simp only [List.cons_append, List.cons.injEq] at e
      rw [← e.1]
      exact h2 c r ht
theorem tx_mg (n : Nat) (h : n ≠ 0) : tx (mg n) = decDigits n := by
  obtain ⟨h1, h2⟩ := tx_head (mg n) (fun e => h (mg_nil.mp e)) (mg_last n)
  have := canon (tx (mg n)) (tx_dig _) h2 h1
  rw [tx_val _ (pt_mg n), mv_mg] at this
  exact this.symm
/-- part i of n parts, as the code writes it -/
def ck (m : List Nat) (i : Nat) : List UInt8 := if i < m.length - 1 then List.replicate (9 - (decDigits (m.getD i 0)).length) 48 ++ decDigits (m.getD i 0) else decDigits (m.getD i 0)
theorem chunk_ck (m : List Nat) (i : Fin (il m).length) : Hd.chunk (il m) i = ck m i.1 := by
  unfold Hd.chunk ck
  rw [il_getD, Int.toNat_natCast]
  simp only [il_len]
theorem ck_flat : ∀ (m : List Nat), (List.range m.length).reverse.flatMap (ck m) = tx m
  | [] => rfl
  | [x] => by simp [ck, tx]
  | x :: y :: l => by
    have ih := ck_flat (y :: l)
    have e : List.range (x :: y :: l).length = 0 :: (List.range (y :: l).length).map Nat.succ := by
      rw [List.length_cons, List.range_succ_eq_map]
    rw [e, List.reverse_cons, List.flatMap_append, ← List.map_reverse, List.flatMap_map, tx, ← ih]
    congr 1
    · congr 1
      funext i
      have h1 : (x :: y :: l).getD (i + 1) 0 = (y :: l).getD i 0 := by simp [List.getD]
      unfold ck
      rw [h1]
      have h2 : (i + 1 < (x :: y :: l).length - 1) = (i < (y :: l).length - 1) := by simp only [List.length_cons, eq_iff_iff]; omega
      simp only [Nat.succ_eq_add_one, h2]
    · simp [ck]
theorem bk_flat (m : List Nat) : (Hd.bk (il m).length (il m).length).flatMap (Hd.chunk (il m)) = tx m := by
  have h1 : (Hd.bk (il m).length (il m).length) = (List.finRange (il m).length).reverse := by
    unfold Hd.bk
    rw [List.take_of_length_le (by simp)]
  rw [h1, ← ck_flat m]
  have h2 : (List.range m.length) = (List.finRange (il m).length).map (fun i => i.1) := by
    apply List.ext_getElem
    · simp [il_len]
    · intro i h1 h2; simp
  rw [h2, ← List.map_reverse, List.flatMap_map]
  congr 1
  funext i
  exact chunk_ck m i
theorem text_ev (n : Nat) (b : Bool) (hl : (mg n).length ≤ 1000000) : Hd.wtext.f (il (mg n)) b = some (if n = 0 then BA [48] else BA ((if b = true then [45] else []) ++ decDigits n)) := by
  unfold Hd.wtext.f
  by_cases h : n = 0
  · subst h
    rw [mg_zero]
    rfl
  · have hne : il (mg n) ≠ [] := fun e => h (mg_nil.mp (by have := congrArg List.length e; rw [il_len] at this; exact List.length_eq_zero_iff.mp (by simpa using this)))
    have hp : ∀ x ∈ il (mg n), 0 ≤ x ∧ x < 1000000000 := fun x hx => by
      simp only [il, List.mem_map] at hx
      obtain ⟨y, hy, rfl⟩ := hx
      have := pt_mg n y hy
      omega
    rw [if_neg hne, if_pos ⟨hp, by rw [il_len]; exact hl⟩, if_neg h, bk_flat, tx_mg n h]
end Go.Proofs.YtcpaajecppplhaaGreatDoor.Nm
end
section
/- The program's numbers, plainly: Add, Sub, Mul, Cmp, Neg, Sign at the text of every number, and at every other text. -/
namespace Go.Proofs.YtcpaajecppplhaaGreatDoor.Nm
open Go.Lib Go.RowKit Go.Proofs.YtcpaajecppplhaaGreatDoorW.PrintWords Go.Proofs.YtcpaajecppplhaaGreatDoorW.PrintLast Go.Proofs.YtcpaajecppplhaaGreatDoor
set_option linter.unusedVariables false
set_option linter.unusedSimpArgs false
instance decSm (z : Int) : Decidable (Sm z) := by unfold Sm; exact inferInstance
/-- a size with a sign -/
def sv (n : Nat) (b : Bool) : Int := if b = true then -(n : Int) else (n : Int)
theorem sv_abs (z : Int) : sv z.natAbs (decide (z < 0)) = z := by
  unfold sv
  by_cases h : z < 0
  · rw [if_pos (decide_eq_true h)]; omega
  · rw [if_neg (by simp [h])]; omega
theorem mg_len {n k : Nat} (h : n < 10 ^ k) : (mg n).length ≤ k + 1 := by
  by_cases h0 : n = 0
  · subst h0; rw [mg_zero]; simp
  · have h1 := mg_low h0
    have h2 : 10 ^ k ≤ 1000000000 ^ k := Nat.pow_le_pow_left (by decide) k
    rcases Nat.lt_or_ge (k + 1) (mg n).length with h3 | h3
    · have h4 : 1000000000 ^ k ≤ 1000000000 ^ ((mg n).length - 1) := Nat.pow_le_pow_right (by decide) (by omega)
      omega
    · exact h3
theorem mg_len_nl {n : Nat} {k : Nat} (h : (decDigits n).length ≤ k) : (mg n).length ≤ k + 1 := mg_len (lt_of_len n k h)
def plusW (x : Nat) (a : Bool) (y : Nat) (b : Bool) : Nat × Bool := if (a == b) = true then (x + y, a) else if x < y then (y - x, b) else (x - y, a)
theorem plusW_sv (x : Nat) (a : Bool) (y : Nat) (b : Bool) : sv (plusW x a y b).1 (plusW x a y b).2 = sv x a + sv y b := by
  unfold plusW sv
  by_cases hlt : x < y
  · cases a <;> cases b <;> simp [hlt] <;> omega
  · cases a <;> cases b <;> simp [hlt] <;> omega
theorem wplus_ev (x y : Nat) (a b : Bool) (hx : (decDigits x).length ≤ 1000) (hy : (decDigits y).length ≤ 1000) : Ev (fun k => L.num_plus.f k (il (mg x)) a (il (mg y)) b) (il (mg (plusW x a y b).1), (plusW x a y b).2) := by
  have lx := mg_len_nl hx
  have ly := mg_len_nl hy
  have ex := mv_mg x
  have ey := mv_mg y
  unfold L.num_plus.f plusW
  by_cases hab : (a == b) = true
  · simp only [hab, if_true]
    have := sumM_ev (mg x) (mg y) (pt_mg x) (pt_mg y) (by omega) (by omega)
    rw [ex, ey] at this
    exact Ev.bind this (Ev.now _)
  · simp only [hab, if_false, Bool.false_eq_true]
    rw [compare_ev]
    simp only [Option.bind_some]
    by_cases hlt : x < y
    · have hc : cmpN x y < 0 := by unfold cmpN; rw [if_pos hlt]; decide
      simp only [hc, hlt, if_true]
      have := lessM_ev (mg y) (mg x) (pt_mg y) (pt_mg x) (by omega) (by rw [ex, ey]; omega)
      rw [ex, ey] at this
      exact Ev.bind this (Ev.now _)
    · have hc : ¬ cmpN x y < 0 := by unfold cmpN; rw [if_neg hlt]; split <;> decide
      simp only [hc, hlt, if_false]
      have := lessM_ev (mg x) (mg y) (pt_mg x) (pt_mg y) (by omega) (by rw [ex, ey]; omega)
      rw [ex, ey] at this
      exact Ev.bind this (Ev.now _)
theorem il_pos (n : Nat) : decide (0 < (il (mg n)).length) = decide (n ≠ 0) := by
  rw [il_len, decide_eq_decide]
  constructor
  · intro h e; rw [e, mg_zero] at h; simp at h
  · intro h
    exact List.length_pos_iff.mpr (fun e => h (mg_nil.mp e))
theorem turned_ev' (n : Nat) (b : Bool) : ∃ c, K.num_whole_turned.f (il (mg n)) b = some (il (mg n), c) ∧ sv n c = - sv n b := by
  unfold K.num_whole_turned.f
  cases b with
  | true => exact ⟨false, by rw [if_pos rfl], by simp [sv]⟩
  | false =>
    refine ⟨decide (n ≠ 0), by rw [if_neg (by decide), il_pos], ?_⟩
    unfold sv
    by_cases h : n = 0
    · subst h; rfl
    · rw [if_pos (decide_eq_true h), if_neg (by decide)]
theorem itoa_inj {x y : Int} (h : itoa x = itoa y) : x = y := by
  have h1 := congrArg body h
  rw [body_itoa, body_itoa] at h1
  have h2 := congrArg val h1
  rw [val_decDigits, val_decDigits] at h2
  by_cases hx : x < 0
  · by_cases hy : y < 0
    · omega
    · exfalso
      rw [itoa_neg' hx, itoa_pos' hy] at h
      obtain ⟨c, r, e, h3, h4⟩ := head_dec y.natAbs
      rw [e] at h
      simp only [List.cons.injEq] at h
      rw [← h.1] at h3
      exact absurd h3 (by decide)
  · by_cases hy : y < 0
    · exfalso
      rw [itoa_pos' hx, itoa_neg' hy] at h
      obtain ⟨c, r, e, h3, h4⟩ := head_dec x.natAbs
      rw [e] at h
      simp only [List.cons.injEq] at h
      rw [h.1] at h3
      exact absurd h3 (by decide)
    · omega
theorem may_iff (z : Int) : mayL (itoa z) = decide (Sm z) := by
  by_cases h : Sm z
  · rw [may_num z h, decide_eq_true h]
  · rw [decide_eq_false h]
    refine Bool.eq_false_iff.mpr (fun e => h ?_)
    obtain ⟨z', e1, h1⟩ := num_of_may _ e
    rw [itoa_inj e1]
    exact h1
theorem text_sv (n : Nat) (b : Bool) (hb : b = true → n ≠ 0) (hl : (mg n).length ≤ 1000000) : Hd.wtext.f (il (mg n)) b = some (numS (sv n b)) := by
  rw [text_ev n b hl]
  congr 1
  by_cases h : n = 0
  · subst h
    have : b = false := by
      cases b with
      | true => exact absurd rfl (hb rfl)
      | false => rfl
    subst this
    rw [if_pos rfl, show sv 0 false = 0 from rfl, numS_pos (by decide)]
    exact congrArg BA decDigits_zero.symm
  · rw [if_neg h]
    cases b with
    | true =>
      rw [if_pos rfl, show sv n true = -(n : Int) from rfl, numS_neg (by omega), Int.natAbs_neg, Int.natAbs_natCast]
      rfl
    | false =>
      rw [if_neg (by decide), show sv n false = (n : Int) from rfl, numS_pos (by omega), Int.natAbs_natCast]
      rfl
theorem tell_j0 (n : Nat) (b : Bool) (hb : b = true → n ≠ 0) (hl : (mg n).length ≤ 1000000) : Ev (fun k => L.num_told.j0 k (il (mg n)) b) (told (sv n b)) := by
  refine Ev.step (f := fun _ => some (told (sv n b))) (fun k => ?_) (Ev.now _)
  simp only [L.num_told.j0]
  rw [text_sv n b hb hl]
  simp only [Option.bind_some]
  rw [show K.num_May.f (numS (sv n b)) = some (mayL (itoa (sv n b))) from may_ev _, may_iff]
  simp only [Option.bind_some]
  unfold told
  by_cases h : Sm (sv n b)
  · rw [if_pos (decide_eq_true h)]
    exact congrArg some (if_pos h).symm
  · rw [if_neg (by simp [h])]
    exact congrArg some (if_neg h).symm
theorem tell_ev (n : Nat) (b : Bool) (hl : (mg n).length ≤ 1000000) : Ev (fun k => L.num_told.f k (il (mg n)) b) (told (sv n b)) := by
  cases b with
  | false =>
    refine Ev.congr (fun k => ?_) (tell_j0 n false (by intro h; cases h) hl)
    unfold L.num_told.f
    rw [if_neg (by decide)]
  | true =>
    by_cases h : n = 0
    · subst h
      refine Ev.congr (fun k => ?_) (tell_j0 0 false (by intro h; cases h) hl)
      unfold L.num_told.f
      rw [if_pos rfl, il_pos]
      rfl
    · refine Ev.congr (fun k => ?_) (tell_j0 n true (fun _ => h) hl)
      unfold L.num_told.f
      rw [if_pos rfl, il_pos, decide_eq_true h]
theorem mayS {z : Int} (h : Sm z) : K.num_May.f (numS z) = some true := by rw [← may_num z h]; exact may_ev _
theorem plusW_len (x : Nat) (a : Bool) (y : Nat) (b : Bool) (hx : (decDigits x).length ≤ 1000) (hy : (decDigits y).length ≤ 1000) : (mg (plusW x a y b).1).length ≤ 1000000 := by
  have h : (plusW x a y b).1 ≤ x + y := by unfold plusW; split <;> (try split) <;> simp only <;> omega
  have h1 := Nat.le_trans (dec_mono h) (dec_add hx hy)
  have := mg_len_nl h1
  omega
theorem numAdd_ev (x y : Int) (hx : Sm x) (hy : Sm y) : Ev (fun k => L.num_Add.f k (numS x) (numS y)) (told (x + y)) := by
  have h1 : (decDigits x.natAbs).length ≤ 1000 := Nat.le_trans (sm_nl hx) (by decide)
  have h2 : (decDigits y.natAbs).length ≤ 1000 := Nat.le_trans (sm_nl hy) (by decide)
  have hsv := plusW_sv x.natAbs (decide (x < 0)) y.natAbs (decide (y < 0))
  rw [sv_abs, sv_abs] at hsv
  have ht := tell_ev (plusW x.natAbs (decide (x < 0)) y.natAbs (decide (y < 0))).1 (plusW x.natAbs (decide (x < 0)) y.natAbs (decide (y < 0))).2 (plusW_len _ _ _ _ h1 h2)
  rw [hsv] at ht
  have hin : Ev (fun k => L.num_plus.f k (wh x).1 (wh x).2 (wh y).1 (wh y).2) (il (mg (plusW x.natAbs (decide (x < 0)) y.natAbs (decide (y < 0))).1), (plusW x.natAbs (decide (x < 0)) y.natAbs (decide (y < 0))).2) := wplus_ev x.natAbs y.natAbs (decide (x < 0)) (decide (y < 0)) h1 h2
  unfold L.num_Add.f
  refine Ev.bind ?_ (Ev.now _)
  unfold L.num_of_plus.f
  rw [mayS hx, mayS hy]
  simp only [Option.bind_some, if_true, Bool.not_true]
  refine Ev.step (fun k => ?_) (Ev.bind (f := fun k bt136 => (K.num_read.f k (numS y)).bind fun bt140 => ((L.num_plus.f k bt136.1 bt136.2 bt140.1 bt140.2).bind fun bt144 => ((L.num_told.f k bt144.1 bt144.2).bind fun bt148 => (some (bt148.1, bt148.2))))) (read_ev x h1) (Ev.bind (f := fun k bt140 => (L.num_plus.f k (wh x).1 (wh x).2 bt140.1 bt140.2).bind fun bt144 => ((L.num_told.f k bt144.1 bt144.2).bind fun bt148 => (some (bt148.1, bt148.2)))) (read_ev y h2) (Ev.bind (f := fun k bt144 => (L.num_told.f k bt144.1 bt144.2).bind fun bt148 => (some (bt148.1, bt148.2))) hin (Ev.bind ht (Ev.now _)))))
  simp only [L.num_of_plus.j0]
  rw [if_neg (by decide)]
theorem numSub_ev (x y : Int) (hx : Sm x) (hy : Sm y) : Ev (fun k => L.num_Sub.f k (numS x) (numS y)) (told (x - y)) := by
  have h1 : (decDigits x.natAbs).length ≤ 1000 := Nat.le_trans (sm_nl hx) (by decide)
  have h2 : (decDigits y.natAbs).length ≤ 1000 := Nat.le_trans (sm_nl hy) (by decide)
  obtain ⟨c, hc, hcs⟩ := turned_ev' y.natAbs (decide (y < 0))
  have hsv := plusW_sv x.natAbs (decide (x < 0)) y.natAbs c
  rw [sv_abs, hcs, sv_abs] at hsv
  have ht := tell_ev (plusW x.natAbs (decide (x < 0)) y.natAbs c).1 (plusW x.natAbs (decide (x < 0)) y.natAbs c).2 (plusW_len _ _ _ _ h1 h2)
  rw [hsv, show x + -y = x - y from rfl] at ht
  have hin : Ev (fun k => L.num_Sub_1.f k (wh x).1 (wh x).2 (wh y).1 (wh y).2) (il (mg (plusW x.natAbs (decide (x < 0)) y.natAbs c).1), (plusW x.natAbs (decide (x < 0)) y.natAbs c).2) := by
    unfold L.num_Sub_1.f wh
    simp only
    rw [hc]
    simp only [Option.bind_some]
    exact Ev.bind (wplus_ev x.natAbs y.natAbs (decide (x < 0)) c h1 h2) (Ev.now _)
  unfold L.num_Sub.f
  refine Ev.bind ?_ (Ev.now _)
  unfold L.num_of_Sub1.f
  rw [mayS hx, mayS hy]
  simp only [Option.bind_some, if_true, Bool.not_true]
  refine Ev.step (fun k => ?_) (Ev.bind (f := fun k bt152 => (K.num_read.f k (numS y)).bind fun bt156 => ((L.num_Sub_1.f k bt152.1 bt152.2 bt156.1 bt156.2).bind fun bt160 => ((L.num_told.f k bt160.1 bt160.2).bind fun bt164 => (some (bt164.1, bt164.2))))) (read_ev x h1) (Ev.bind (f := fun k bt156 => (L.num_Sub_1.f k (wh x).1 (wh x).2 bt156.1 bt156.2).bind fun bt160 => ((L.num_told.f k bt160.1 bt160.2).bind fun bt164 => (some (bt164.1, bt164.2)))) (read_ev y h2) (Ev.bind (f := fun k bt160 => (L.num_told.f k bt160.1 bt160.2).bind fun bt164 => (some (bt164.1, bt164.2))) hin (Ev.bind ht (Ev.now _)))))
  simp only [L.num_of_Sub1.j0]
  rw [if_neg (by decide)]
set_option maxHeartbeats 2000000 in
theorem numMul_ev (x y : Int) (hx : Sm x) (hy : Sm y) : Ev (fun k => L.num_Mul.f k (numS x) (numS y)) (told (x * y)) := by
  have h1 : (decDigits x.natAbs).length ≤ 1000 := Nat.le_trans (sm_nl hx) (by decide)
  have h2 : (decDigits y.natAbs).length ≤ 1000 := Nat.le_trans (sm_nl hy) (by decide)
  have l1 := mg_len_nl h1
  have l2 := mg_len_nl h2
  have hml : (mg (x.natAbs * y.natAbs)).length ≤ 1000000 := by
    have h3 := nl_mul x y
    have h4 : (decDigits (x.natAbs * y.natAbs)).length ≤ nl x + nl y := by
      rw [← Int.natAbs_mul]
      exact h3
    have h5 := mg_len_nl h4
    have h6 : nl x ≤ 1000 := h1
    have h7 : nl y ≤ 1000 := h2
    omega
  have ht := tell_ev (x.natAbs * y.natAbs) (decide (x < 0) != decide (y < 0)) hml
  have e : sv (x.natAbs * y.natAbs) (decide (x < 0) != decide (y < 0)) = x * y := by
    have hn : ((x.natAbs * y.natAbs : Nat) : Int) = (x.natAbs : Int) * (y.natAbs : Int) := by simp
    unfold sv
    rw [hn]
    by_cases h1 : x < 0 <;> by_cases h2 : y < 0
    · rw [if_neg (by simp [h1, h2]), show (y.natAbs : Int) = -y by omega, show (x.natAbs : Int) = -x by omega, Int.neg_mul_neg]
    · rw [if_pos (by simp [h1, h2]), show (y.natAbs : Int) = y by omega, show (x.natAbs : Int) = -x by omega, Int.neg_mul, Int.neg_neg]
    · rw [if_pos (by simp [h1, h2]), show (y.natAbs : Int) = -y by omega, show (x.natAbs : Int) = x by omega, Int.mul_neg, Int.neg_neg]
    · rw [if_neg (by simp [h1, h2]), show (y.natAbs : Int) = y by omega, show (x.natAbs : Int) = x by omega]
  rw [e] at ht
  have hin : Ev (fun k => L.num_Mul_1.f k (wh x).1 (wh x).2 (wh y).1 (wh y).2) (il (mg (x.natAbs * y.natAbs)), (decide (x < 0) != decide (y < 0))) := by
    unfold L.num_Mul_1.f wh
    have := prodM_ev (mg x.natAbs) (mg y.natAbs) (pt_mg _) (pt_mg _) (by omega) (by omega)
    rw [mv_mg, mv_mg] at this
    exact Ev.bind this (Ev.now _)
  generalize told (x * y) = T at *
  generalize il (mg (x.natAbs * y.natAbs)) = M at *
  generalize (decide (x < 0) != decide (y < 0)) = S at *
  have c3 : Ev (fun k => (L.num_told.f k M S).bind fun bt3 => some (bt3.1, bt3.2)) T := Ev.bind ht (Ev.now _)
  have c2 : Ev (fun k => (L.num_Mul_1.f k (wh x).1 (wh x).2 (wh y).1 (wh y).2).bind fun bt2 => ((L.num_told.f k bt2.1 bt2.2).bind fun bt3 => some (bt3.1, bt3.2))) T := Ev.bind (f := fun k bt2 => (L.num_told.f k bt2.1 bt2.2).bind fun bt3 => some (bt3.1, bt3.2)) hin c3
  have ry := read_ev y h2
  generalize wh y = Y at *
  have rx := read_ev x h1
  generalize wh x = X at *
  have c1 : Ev (fun k => (K.num_read.f k (numS y)).bind fun bt' => ((L.num_Mul_1.f k X.1 X.2 bt'.1 bt'.2).bind fun bt2 => ((L.num_told.f k bt2.1 bt2.2).bind fun bt3 => some (bt3.1, bt3.2)))) T := Ev.bind (f := fun k bt' => (L.num_Mul_1.f k X.1 X.2 bt'.1 bt'.2).bind fun bt2 => ((L.num_told.f k bt2.1 bt2.2).bind fun bt3 => some (bt3.1, bt3.2))) ry c2
  unfold L.num_Mul.f
  refine Ev.bind ?_ (Ev.now _)
  unfold L.num_of_Mul1.f
  rw [mayS hx, mayS hy]
  simp only [Option.bind_some, if_true, Bool.not_true]
  refine Ev.step (fun k => ?_) (Ev.bind (f := fun k bt => (K.num_read.f k (numS y)).bind fun bt' => ((L.num_Mul_1.f k bt.1 bt.2 bt'.1 bt'.2).bind fun bt2 => ((L.num_told.f k bt2.1 bt2.2).bind fun bt3 => some (bt3.1, bt3.2)))) rx c1)
  simp only [L.num_of_Mul1.j0]
  rw [if_neg (by decide)]
end Go.Proofs.YtcpaajecppplhaaGreatDoor.Nm
end
