/- What the law leans on, part 18: declarations of several texts of ours, in their order. -/
import Derived.Test.YtkhgpnbhnipndaaGreatDoorXFS12
import Derived.Test.YtkhgpnbhnipndaaGreatDoorXFS16
section
/- slices.Insert of one part ahead of all others: into a row of one's own. -/
namespace Go.Proofs.YtkhgpnbhnipndaaGreatDoor.Am
open Go Go.RowKit Go.Proofs.YtkhgpnbhnipndaaGreatDoorW.PrintWords Go.Proofs.YtkhgpnbhnipndaaGreatDoorW.PrintLast Go.Proofs.YtkhgpnbhnipndaaGreatDoor
set_option linter.unusedVariables false
set_option linter.unusedSimpArgs false
theorem al_u {w : World} {S : Nat → Prop} {l : List Nat} {us : List Value} (h : Al (Dr w S) (l.map uD) us) : us = nums .u64 (l.map fun x : Nat => (x : Int)) := by
  apply List.ext_getElem?
  intro j
  by_cases hj : j < l.length
  · have hl : (l.map uD)[j]? = some (uD l[j]) := by simp [hj]
    obtain ⟨u, hu, hd⟩ := h.get hl
    rw [hu]
    cases hd
    simp [nums, hj]
  · have hl := h.len
    rw [List.getElem?_eq_none (by simp at hl; omega), List.getElem?_eq_none (by simp [nums]; omega)]
theorem u_al {w : World} {S : Nat → Prop} (l : List Nat) : Al (Dr w S) (l.map uD) (nums .u64 (l.map fun x : Nat => (x : Int))) := by
  refine ⟨by simp [nums], fun i x u hx hu => ?_⟩
  by_cases hi : i < l.length
  · simp [hi] at hx
    simp [nums, hi] at hu
    subst hx hu
    exact .v _
  · rw [List.getElem?_eq_none (by simp; omega)] at hx
    cases hx
theorem insert_hc {h : Hp} {n b bv : Nat} {l : List Nat} {x : Nat} {Q : V → Hp → Nat → Prop} (hb : h b = some (.ar 205 1 l.length (l.map uD))) (hbv : h bv = some (.ar 205 1 1 [uD x])) (hne : b ≠ bv) (hl : l.length ≤ 1000000)
    (hq : Q (.bs n) (upd (kil h b) n (.ar 205 1 (l.length + 1) ((x :: l).map uD))) (n + 1)) : Hc Tryz.prog 234 [.bs b, .d (iD 0), .bs bv] h n Q := by
  refine ⟨⟨_, Tryz.func234, rfl, by decide⟩, fun n₀ w₀ S₀ S σ fr w vs H hlo hlen hv => ?_⟩
  obtain ⟨v0, v1, v2, rfl⟩ : ∃ a b c, vs = [a, b, c] := by match vs, hlen with | [a, b, c], _ => exact ⟨a, b, c, rfl⟩
  have d0 := hv 0 _ _ rfl rfl
  have d1 := hv 1 _ _ rfl rfl
  have d2 := hv 2 _ _ rfl rfl
  obtain ⟨u0, us, e1, ho, one, al⟩ := H.bx b _ hb
  obtain ⟨u2, us2, f1, ho2, one2, al2⟩ := H.bx bv _ hbv
  cases d0 with
  | bs hσ _ =>
    cases d2 with
    | bs hσ2 _ =>
      cases d1 with
      | d d1 =>
        cases d1
        rw [hσ] at e1
        cases e1
        rw [hσ2] at f1
        cases f1
        obtain rfl := al_u al
        rcases ho2.2 with ⟨_, h0⟩ | ⟨g, cv, ar, rfl, hg, hh, hn, hc, hs, ht⟩
        · cases h0
        · have har : ar[0]? = some (.int .u64 (x : Int)) := by
            obtain ⟨u, hu, hd⟩ := al2.get (i := 0) rfl
            cases hd
            rw [← ht, List.getElem?_take_of_lt (by decide), Array.getElem?_toList] at hu
            exact hu
          have hR : Kd.R (Kd.int .u64) 205 w n₀ (fun k => v0.ownBlock = some k ∨ w.heap.size ≤ k) v0 (l.map fun x : Nat => (x : Int)) := Hd.R_of_own (by simpa using ho) (fun k hk => .inl hk)
          refine (Hd.insertR (x : Int) _ v0 g n₀ cv ar har _ w hR (fun k hk => .inr hk) hh (fun e => ?_) H.size (by simpa using hl)).mono ?_
          · exact H.sep b bv _ _ hb hbv rfl rfl hne v0 _ g hσ hσ2 ((base_own ho).trans e) rfl
          · rintro e w' ⟨v', rfl, hR', hg'⟩
            have ho' := Hd.own_of_R hR'
            refine ⟨.bs n, _, _, S, _, v', rfl, hq, H.appAr2 (v := v') (m := l.length + 1) hb hσ hg' (fun g hg => hR'.1 g hg) ho (us' := nums .u64 ((x :: l).map fun x : Nat => (x : Int))) (by simpa using ho') (fun u hu => ?_) (u_al (x :: l)), .bs (by simp [updσ]) (own_one ho'), by omega⟩
            obtain ⟨y, _, rfl⟩ := List.mem_map.1 hu
            rfl
end Go.Proofs.YtkhgpnbhnipndaaGreatDoor.Am
end
