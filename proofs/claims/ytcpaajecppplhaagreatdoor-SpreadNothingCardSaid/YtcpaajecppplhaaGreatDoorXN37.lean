/- What the law leans on, part 38: declarations of several texts of ours, in their order. -/
import Derived.Test.YtcpaajecppplhaaGreatDoorXN11
import Derived.Test.YtcpaajecppplhaaGreatDoorXN13
import Derived.Test.YtcpaajecppplhaaGreatDoorXN14
import Derived.Test.YtcpaajecppplhaaGreatDoorXN36
import Derived.Test.YtcpaajecppplhaaGreatDoorXN33
import Derived.Test.YtcpaajecppplhaaGreatDoorXN34
section
/-! The printed contracts, over data. -/
namespace Go.Proofs.YtcpaajecppplhaaGreatDoor.Am
open Go Go.RowKit Go.Proofs.YtcpaajecppplhaaGreatDoorW.PrintWords
set_option linter.unusedVariables false
set_option linter.unusedSimpArgs false
theorem shape_Meet.runs (k : Nat) (l0 : List Int) (l1 : List Int) (r1 : List Int) (r2 : Int) (c0 : Option Nat) (c1 : Option Nat) (h : K.shape_Meet.f k l0 l1 = some (r1, r2)) :
    Runs Tryz.prog 76 [rI l0 c0, rI l1 c1] (.tup [rI r1 none, .v (.int .i64 r2)]) := by
  refine ⟨⟨_, Tryz.func76, rfl, by decide⟩, fun w S vs hG hS hl hv => ?_⟩
  obtain ⟨v0, v1, rfl⟩ := two hl
  have dv0 := hv 0 _ _ rfl rfl
  have dv1 := hv 1 _ _ rfl rfl
  obtain ⟨A0, c0', rfl, hc0, hr0⟩ := Dr.rI_C dv0
  obtain ⟨A1, c1', rfl, hc1, hr1⟩ := Dr.rI_C dv1
  refine (K.shape_Meet.calls k A0 c0' l0 A1 c1' l1 r1 r2 w hr0 hc0 hr1 hc1 h).mono ?_
  rintro e w' ⟨v0_, rfl, Rv0_, hb⟩
  exact ⟨_, rfl, hb, (Dr.tup2 (R_Dr Rv0_ fun g h1 h2 => .inr ⟨h1, h2⟩) (.v _))⟩
theorem shape_Size.runs (k : Nat) (l0 : List Int) (r1 : Int) (r2 : Int) (c0 : Option Nat) (h : K.shape_Size.f k l0 = some (r1, r2)) :
    Runs Tryz.prog 65 [rI l0 c0] (.tup [.v (.int .i64 r1), .v (.int .i64 r2)]) := by
  refine ⟨⟨_, Tryz.func65, rfl, by decide⟩, fun w S vs hG hS hl hv => ?_⟩
  obtain ⟨v0, rfl⟩ := one_ hl
  have dv0 := hv 0 _ _ rfl rfl
  obtain ⟨A0, c0', rfl, hc0, hr0⟩ := Dr.rI_C dv0
  refine (K.shape_Size.calls k A0 c0' l0 r1 r2 w hr0 hc0 h).mono ?_
  rintro e w' ⟨rfl, hb⟩
  exact ⟨_, rfl, drawn_below hb, (Dr.tup2 (.v _) (.v _))⟩
theorem shape_Same.runs (k : Nat) (l0 : List Int) (l1 : List Int) (r : Bool) (c0 : Option Nat) (c1 : Option Nat) (h : K.shape_Same.f k l0 l1 = some r) :
    Runs Tryz.prog 71 [rI l0 c0, rI l1 c1] (.v (.bool r)) := by
  refine ⟨⟨_, Tryz.func71, rfl, by decide⟩, fun w S vs hG hS hl hv => ?_⟩
  obtain ⟨v0, v1, rfl⟩ := two hl
  have dv0 := hv 0 _ _ rfl rfl
  have dv1 := hv 1 _ _ rfl rfl
  obtain ⟨A0, c0', rfl, hc0, hr0⟩ := Dr.rI_C dv0
  obtain ⟨A1, c1', rfl, hc1, hr1⟩ := Dr.rI_C dv1
  refine (K.shape_Same.calls k A0 c0' l0 A1 c1' l1 r w hr0 hc0 hr1 hc1 h).mono ?_
  rintro e w' ⟨rfl, hb⟩
  exact ⟨_, rfl, drawn_below hb, (.v _)⟩
theorem val_May.runs (k : Nat) (l0_0 : List Int) (l0_1 : List ByteArray) (r : Bool) (c0_0 : Option Nat) (c0_1 : Option Nat) (h : TV.val_May.f k l0_0 l0_1 = some r) :
    Runs Tryz.prog 25 [.agg [rI l0_0 c0_0, rS l0_1 c0_1]] (.v (.bool r)) := by
  refine ⟨⟨_, Tryz.func25, rfl, by decide⟩, fun w S vs hG hS hl hv => ?_⟩
  obtain ⟨v0, rfl⟩ := one_ hl
  have dv0 := hv 0 _ _ rfl rfl
  obtain ⟨v0a, v0b, rfl, dv0a, dv0b⟩ := Dr.agg2 dv0
  obtain ⟨A0_0, c0_0', rfl, hc0_0, hr0_0⟩ := Dr.rI_C dv0a
  obtain ⟨A0_1, c0_1', rfl, hc0_1, hr0_1⟩ := Dr.rS_C dv0b
  refine (TV.val_May.calls k A0_0 c0_0' l0_0 A0_1 c0_1' l0_1 r w hr0_0 hc0_0 hr0_1 hc0_1 h).mono ?_
  rintro e w' ⟨rfl, hb⟩
  exact ⟨_, rfl, hb, (.v _)⟩
theorem val_Same.runs (k : Nat) (l0_0 : List Int) (l0_1 : List ByteArray) (l1_0 : List Int) (l1_1 : List ByteArray) (r : Bool) (c0_0 : Option Nat) (c0_1 : Option Nat) (c1_0 : Option Nat) (c1_1 : Option Nat) (h : TV.val_Same.f k l0_0 l0_1 l1_0 l1_1 = some r) :
    Runs Tryz.prog 26 [.agg [rI l0_0 c0_0, rS l0_1 c0_1], .agg [rI l1_0 c1_0, rS l1_1 c1_1]] (.v (.bool r)) := by
  refine ⟨⟨_, Tryz.func26, rfl, by decide⟩, fun w S vs hG hS hl hv => ?_⟩
  obtain ⟨v0, v1, rfl⟩ := two hl
  have dv0 := hv 0 _ _ rfl rfl
  have dv1 := hv 1 _ _ rfl rfl
  obtain ⟨v0a, v0b, rfl, dv0a, dv0b⟩ := Dr.agg2 dv0
  obtain ⟨A0_0, c0_0', rfl, hc0_0, hr0_0⟩ := Dr.rI_C dv0a
  obtain ⟨A0_1, c0_1', rfl, hc0_1, hr0_1⟩ := Dr.rS_C dv0b
  obtain ⟨v1a, v1b, rfl, dv1a, dv1b⟩ := Dr.agg2 dv1
  obtain ⟨A1_0, c1_0', rfl, hc1_0, hr1_0⟩ := Dr.rI_C dv1a
  obtain ⟨A1_1, c1_1', rfl, hc1_1, hr1_1⟩ := Dr.rS_C dv1b
  refine (TV.val_Same.calls k A0_0 c0_0' l0_0 A0_1 c0_1' l0_1 A1_0 c1_0' l1_0 A1_1 c1_1' l1_1 r w hr0_0 hc0_0 hr0_1 hc0_1 hr1_0 hc1_0 hr1_1 hc1_1 h).mono ?_
  rintro e w' ⟨rfl, hb⟩
  exact ⟨_, rfl, hb, (.v _)⟩
theorem val_Vector.runs (l0 : List ByteArray) (r1 : List Int) (r2 : List ByteArray) (c0 : Option Nat) (h : TV.val_Vector.f l0 = some (r1, r2)) :
    Runs Tryz.prog 73 [rS l0 c0] (.agg [rI r1 none, rS r2 none]) := by
  refine ⟨⟨_, Tryz.func73, rfl, by decide⟩, fun w S vs hG hS hl hv => ?_⟩
  obtain ⟨v0, rfl⟩ := one_ hl
  have dv0 := hv 0 _ _ rfl rfl
  obtain ⟨A0, c0', rfl, hc0, hr0⟩ := Dr.rS_C dv0
  refine (TV.val_Vector.calls A0 c0' l0 r1 r2 w hr0 hc0 h).mono ?_
  rintro e w' ⟨v0_, v1_, rfl, Rv0_, Rv1_, hb⟩
  exact ⟨_, rfl, hb, (Dr.agg2' (R_Dr Rv0_ fun g h1 h2 => .inr ⟨h1, h2⟩) (R_Dr Rv1_ fun g h1 h2 => .inr ⟨h1, h2⟩) (R_one Rv0_) (R_one Rv1_))⟩
theorem val_Scalar.runs (a0 : ByteArray) (r1 : List Int) (r2 : List ByteArray)  (h : TV.val_Scalar.f a0 = some (r1, r2)) :
    Runs Tryz.prog 30 [.v (.string a0)] (.agg [rI r1 none, rS r2 none]) := by
  refine ⟨⟨_, Tryz.func30, rfl, by decide⟩, fun w S vs hG hS hl hv => ?_⟩
  obtain ⟨v0, rfl⟩ := one_ hl
  have dv0 := hv 0 _ _ rfl rfl
  obtain rfl := Dr.v_inv dv0
  refine (TV.val_Scalar.calls a0 r1 r2 w h).mono ?_
  rintro e w' ⟨v0_, v1_, rfl, Rv0_, Rv1_, hb⟩
  exact ⟨_, rfl, hb, (Dr.agg2' (R_Dr Rv0_ fun g h1 h2 => .inr ⟨h1, h2⟩) (R_Dr Rv1_ fun g h1 h2 => .inr ⟨h1, h2⟩) (R_one Rv0_) (R_one Rv1_))⟩
theorem spread_Ops.runs (a0 : ByteArray) (r : Bool)  (h : SV.spread_Ops.f a0 = some r) :
    Runs Tryz.prog 28 [.v (.string a0)] (.v (.bool r)) := by
  refine ⟨⟨_, Tryz.func28, rfl, by decide⟩, fun w S vs hG hS hl hv => ?_⟩
  obtain ⟨v0, rfl⟩ := one_ hl
  have dv0 := hv 0 _ _ rfl rfl
  obtain rfl := Dr.v_inv dv0
  refine (SV.spread_Ops.calls a0 r w h).mono ?_
  rintro e w' ⟨rfl, hb⟩
  exact ⟨_, rfl, drawn_below hb, (.v _)⟩
theorem num_May.runs (a0 : ByteArray) (r : Bool)  (h : K.num_May.f a0 = some r) :
    Runs Tryz.prog 70 [.v (.string a0)] (.v (.bool r)) := by
  refine ⟨⟨_, Tryz.func70, rfl, by decide⟩, fun w S vs hG hS hl hv => ?_⟩
  obtain ⟨v0, rfl⟩ := one_ hl
  have dv0 := hv 0 _ _ rfl rfl
  obtain rfl := Dr.v_inv dv0
  refine (K.num_May.calls a0 r w h).mono ?_
  rintro e w' ⟨rfl, hb⟩
  exact ⟨_, rfl, hb, (.v _)⟩
theorem reredosref04_Few.runs (k : Nat) (l0_0 : List Int) (l0_1 : List ByteArray) (r : Bool) (c0_0 : Option Nat) (c0_1 : Option Nat) (h : TV.reredosref04_Few.f k l0_0 l0_1 = some r) :
    Runs Tryz.prog 19 [.agg [rI l0_0 c0_0, rS l0_1 c0_1]] (.v (.bool r)) := by
  refine ⟨⟨_, Tryz.func19, rfl, by decide⟩, fun w S vs hG hS hl hv => ?_⟩
  obtain ⟨v0, rfl⟩ := one_ hl
  have dv0 := hv 0 _ _ rfl rfl
  obtain ⟨v0a, v0b, rfl, dv0a, dv0b⟩ := Dr.agg2 dv0
  obtain ⟨A0_0, c0_0', rfl, hc0_0, hr0_0⟩ := Dr.rI_C dv0a
  obtain ⟨A0_1, c0_1', rfl, hc0_1, hr0_1⟩ := Dr.rS_C dv0b
  refine (TV.reredosref04_Few.calls k A0_0 c0_0' l0_0 A0_1 c0_1' l0_1 r w hr0_0 hc0_0 hr0_1 hc0_1 h).mono ?_
  rintro e w' ⟨rfl, hb⟩
  exact ⟨_, rfl, hb, (.v _)⟩
theorem spread_at.runs (l0_0 : List Int) (l0_1 : List ByteArray) (a1 : Int) (r : ByteArray) (c0_0 : Option Nat) (c0_1 : Option Nat) (h : SV.spread_at.f l0_0 l0_1 a1 = some r) :
    Runs Tryz.prog 138 [.agg [rI l0_0 c0_0, rS l0_1 c0_1], .v (.int .i64 a1)] (.v (.string r)) := by
  refine ⟨⟨_, Tryz.func138, rfl, by decide⟩, fun w S vs hG hS hl hv => ?_⟩
  obtain ⟨v0, v1, rfl⟩ := two hl
  have dv0 := hv 0 _ _ rfl rfl
  have dv1 := hv 1 _ _ rfl rfl
  obtain ⟨v0a, v0b, rfl, dv0a, dv0b⟩ := Dr.agg2 dv0
  obtain ⟨A0_0, c0_0', rfl, hc0_0, hr0_0⟩ := Dr.rI_C dv0a
  obtain ⟨A0_1, c0_1', rfl, hc0_1, hr0_1⟩ := Dr.rS_C dv0b
  obtain rfl := Dr.v_inv dv1
  refine (SV.spread_at.calls A0_0 c0_0' l0_0 A0_1 c0_1' l0_1 a1 r w hr0_0 hc0_0 hr0_1 hc0_1 h).mono ?_
  rintro e w' ⟨rfl, hb⟩
  exact ⟨_, rfl, hb, (.v _)⟩
theorem scalarDyad.runs (k : Nat) (op : ByteArray) (a : ByteArray) (b : ByteArray) (r1 : ByteArray) (r2 : Int)  (h : Hd.scalarDyad.f k op a b = some (r1, r2)) :
    Runs Tryz.prog 42 [.v (.string op), .v (.string a), .v (.string b)] (.tup [.v (.string r1), .v (.int .i64 r2)]) := by
  refine ⟨⟨_, Tryz.func42, rfl, by decide⟩, fun w S vs hG hS hl hv => ?_⟩
  obtain ⟨v0, v1, v2, rfl⟩ := three hl
  have dv0 := hv 0 _ _ rfl rfl
  have dv1 := hv 1 _ _ rfl rfl
  have dv2 := hv 2 _ _ rfl rfl
  obtain rfl := Dr.v_inv dv0
  obtain rfl := Dr.v_inv dv1
  obtain rfl := Dr.v_inv dv2
  refine (Hd.scalarDyad.calls k op a b r1 r2 w hG h).mono ?_
  rintro e w' ⟨rfl, hb⟩
  exact ⟨_, rfl, hb, (Dr.tup2 (.v _) (.v _))⟩
end Go.Proofs.YtcpaajecppplhaaGreatDoor.Am
end
