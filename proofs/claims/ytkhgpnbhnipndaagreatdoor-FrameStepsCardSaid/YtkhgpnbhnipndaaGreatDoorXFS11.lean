/- What the law leans on, part 12: declarations of several texts of ours, in their order. -/
import Derived.Test.YtkhgpnbhnipndaaGreatDoorXFS10
import Derived.Test.YtkhgpnbhnipndaaGreatDoorProg
import Derived.KernelRfl
section
/-! The seat's types, as the machine's table. -/
namespace Go.Proofs.YtkhgpnbhnipndaaGreatDoor.Am
open Go Go.RowKit
/-- the types -/
def T : Tab := fun t => match t with
  | 47 => some { size := 2, agg := true, bytes := 48, zero := [.slice none 0 0, .slice none 0 0], fs := [(0, 45), (1, 31)], pl := [(0, 1), (1, 1)] }
  | 45 => some { size := 1, agg := false, bytes := 24, zero := [.slice none 0 0], el := some 3 }
  | 31 => some { size := 1, agg := false, bytes := 24, zero := [.slice none 0 0], el := some 9 }
  | 3 => some { size := 1, agg := false, bytes := 8, zero := [.int .i64 0], kind := some (.int .i64) }
  | 2 => some { size := 1, agg := false, bytes := 8, zero := [.int .i64 0], kind := some (.int .i64) }
  | 4 => some { size := 1, agg := false, bytes := 1, zero := [.bool false], kind := some .bool }
  | 5 => some { size := 1, agg := false, bytes := 1, zero := [.int .u8 0], kind := some (.int .u8) }
  | 9 => some { size := 1, agg := false, bytes := 16, zero := [.string ByteArray.empty], kind := some .string }
  | 176 => some { size := 2, agg := true, bytes := 32, zero := [.slice none 0 0, .bool false], fs := [(0, 174), (1, 4)], pl := [(0, 1), (1, 1)] }
  | 174 => some { size := 1, agg := false, bytes := 24, zero := [.slice none 0 0], el := some 205 }
  | 173 => some { size := 1, agg := false, bytes := 24, zero := [.slice none 0 0], el := some 205 }
  | 205 => some { size := 1, agg := false, bytes := 8, zero := [.int .u64 0], kind := some (.int .u64) }
  | 34 => some { size := 1, agg := false, bytes := 8, zero := [.int .i64 0], kind := some (.int .i64) }
  | 21 => some { size := 1, agg := false, bytes := 4, zero := [.int .i32 0], kind := some (.int .i32) }
  | 33 => some { size := 7, agg := true, bytes := 120, zero := [.slice none 0 0, .string ByteArray.empty, .slice none 0 0, .int .i64 0, .int .i64 0, .slice none 0 0, .string ByteArray.empty], fs := [(0, 30), (2, 25), (3, 3), (4, 3), (5, 31), (6, 9)], pl := [(0, 2), (2, 1), (3, 1), (4, 1), (5, 1), (6, 1)] }
  | 87 => some { size := 3, agg := true, bytes := 32, zero := [.int .i64 0, .int .i64 0, .string ByteArray.empty], fs := [(0, 3), (1, 3), (2, 9)], pl := [(0, 1), (1, 1), (2, 1)], sq := true }
  | 30 => some { size := 2, agg := true, bytes := 40, zero := [.slice none 0 0, .string ByteArray.empty], fs := [(0, 28), (1, 9)], pl := [(0, 1), (1, 1)] }
  | 81 => some { size := 3, agg := true, bytes := 32, zero := [.int .i64 0, .int .i64 0, .string ByteArray.empty], fs := [(0, 3), (1, 3), (2, 9)], pl := [(0, 1), (1, 1), (2, 1)], sq := true }
  | 24 => some { size := 2, agg := true, bytes := 40, zero := [.slice none 0 0, .string ByteArray.empty], fs := [(0, 22), (1, 9)], pl := [(0, 1), (1, 1)] }
  | 39 => some { size := 7, agg := true, bytes := 120, zero := [.slice none 0 0, .string ByteArray.empty, .slice none 0 0, .int .i64 0, .int .i64 0, .slice none 0 0, .string ByteArray.empty], fs := [(0, 24), (2, 25), (3, 3), (4, 3), (5, 31), (6, 9)], pl := [(0, 2), (2, 1), (3, 1), (4, 1), (5, 1), (6, 1)] }
  | 22 => some { size := 1, agg := false, bytes := 24, zero := [.slice none 0 0], el := some 81 }
  | 133 => some { size := 1, agg := true, bytes := 24, zero := [.slice none 0 0], fs := [(0, 31)], pl := [(0, 1)] }
  | 168 => some { size := 1, agg := false, bytes := 8, zero := [.pointer none] }
  | 25 => some { size := 1, agg := false, bytes := 24, zero := [.slice none 0 0], el := some 47 }
  | 220 => some { size := 1, agg := false, bytes := 8, zero := [.int .u64 0], kind := some (.int .u64) }
  | 198 => some { size := 1, agg := false, bytes := 24, zero := [.slice none 0 0], el := some 5 }
  | 28 => some { size := 1, agg := false, bytes := 24, zero := [.slice none 0 0], el := some 87 }
  | 119 => some { size := 1, agg := false, bytes := 8, zero := [.nilFunc], kind := some (.func #[9] #[4] false) }
  | 155 => some { size := 1, agg := false, bytes := 8, zero := [.nilFunc], kind := some (.func #[3] #[4] false) }
  | 75 => some { size := 1, agg := false, bytes := 8, zero := [.nilFunc], kind := some (.func #[47] #[4] false) }
  | 234 => some { size := 1, agg := false, bytes := 8, zero := [.nilFunc], kind := some (.func #[254] #[] false) }
  | 172 => some { size := 1, agg := false, bytes := 8, zero := [.nilFunc], kind := some (.func #[176, 176] #[176] false) }
  | 140 => some { size := 1, agg := false, bytes := 8, zero := [.map none], kind := some (.map 9 135) }
  | 170 => some { size := 1, agg := false, bytes := 8, zero := [.map none], kind := some (.map 9 169) }
  | 135 => some { size := 1, agg := false, bytes := 8, zero := [.nilFunc], kind := some (.func #[9, 9] #[9, 34] false) }
  | 169 => some { size := 1, agg := false, bytes := 8, zero := [.nilFunc], kind := some (.func #[9] #[9] false) }
  | 193 => some { size := 2, agg := true, bytes := 24, zero := [.string ByteArray.empty, .nilFunc], fs := [(0, 9), (1, 191)], pl := [(0, 1), (1, 1)] }
  | 195 => some { size := 1, agg := false, bytes := 24, zero := [.slice none 0 0], el := some 193 }
  | 78 => some { size := 3, agg := true, bytes := 48, zero := [.int .i64 0, .slice none 0 0, .string ByteArray.empty], fs := [(0, 3), (1, 45), (2, 9)], pl := [(0, 1), (1, 1), (2, 1)] }
  | 64 => some { size := 1, agg := false, bytes := 24, zero := [.slice none 0 0], el := some 78 }
  | 110 => some { size := 12, agg := true, bytes := 192, zero := [.slice none 0 0, .string ByteArray.empty, .slice none 0 0, .int .i64 0, .int .i64 0, .slice none 0 0, .string ByteArray.empty, .slice none 0 0, .map none, .int .i64 0, .int .i64 0, .slice none 0 0], fs := [(0, 33), (7, 64), (8, 107), (9, 3), (10, 2), (11, 108)], pl := [(0, 7), (7, 1), (8, 1), (9, 1), (10, 1), (11, 1)] }
  | 106 => some { size := 1, agg := false, bytes := 8, zero := [.pointer none] }
  | 107 => some { size := 1, agg := false, bytes := 8, zero := [.map none], kind := some (.map 9 2) }
  | 108 => some { size := 1, agg := false, bytes := 24, zero := [.slice none 0 0], el := some 2 }
  | 219 => some { size := 1, agg := false, bytes := 1, zero := [.int .i8 0], kind := some (.int .i8) }
  | 162 => some { size := 5, agg := true, bytes := 40, zero := [.int .i64 0, .int .i64 0, .int .i64 0, .int .i64 0, .int .i64 0], arr := some (5, 3) }
  | 83 => some { size := 3, agg := true, bytes := 3, zero := [.int .u8 0, .int .u8 0, .int .u8 0], arr := some (3, 5) }
  | 104 => some { size := 3, agg := true, bytes := 48, zero := [.int .i64 0, .slice none 0 0, .string ByteArray.empty], fs := [(0, 3), (1, 45), (2, 9)], pl := [(0, 1), (1, 1), (2, 1)] }
  | 60 => some { size := 1, agg := false, bytes := 24, zero := [.slice none 0 0], el := some 104 }
  | 191 => some { size := 1, agg := false, bytes := 8, zero := [.nilFunc], kind := some (.func #[2, 2, 3] #[2, 4] false) }
  | 197 => some { size := 1, agg := false, bytes := 8, zero := [.nilFunc], kind := some (.func #[193] #[4] false) }
  | 184 => some { size := 1, agg := false, bytes := 16, zero := [.nilIface], isI := true }
  | 188 => some { size := 1, agg := false, bytes := 8, zero := [.nilFunc], kind := some (.func #[2] #[4] false) }
  | 166 => some { size := 1, agg := false, bytes := 8, zero := [.nilFunc], kind := some (.func #[3] #[2, 4] false) }
  | _ => none
theorem info_of {P : Program} {t : TypeId} {r : Ti} {z : Value} (h : (P.info? t).map (fun i => (i.zero, i.size, i.bytes)) = some (some z, r.size, r.bytes)) (hz : z.cells.toList = r.zero) (hl : r.zero.length = r.size) (h1 : r.zero.all Value.oneCell' = true) :
    ∃ i z, P.info? t = some i ∧ i.size = r.size ∧ i.bytes = r.bytes ∧ i.zero = some z ∧ z.cells.toList = r.zero ∧ r.zero.length = r.size ∧ ∀ u, u ∈ r.zero → u.oneCell' = true := by
  cases e : P.info? t with
  | none => rw [e] at h; cases h
  | some i =>
    rw [e] at h
    simp only [Option.map_some, Option.some.injEq, Prod.mk.injEq] at h
    exact ⟨i, z, rfl, h.2.1, h.2.2, h.1, hz, hl, List.all_eq_true.1 h1⟩
theorem zv_of {P : Program} {t : TypeId} {r : Ti} {z : Value} (h : (P.info? t).map (fun i => (i.zero, i.size, i.bytes)) = some (some z, r.size, r.bytes)) (hz : z = if r.agg then .agg r.zero.toArray else r.zero.headD undef) : ∃ i, P.info? t = some i ∧ i.zero = some (if r.agg then .agg r.zero.toArray else r.zero.headD undef) := by
  cases e : P.info? t with
  | none => rw [e] at h; cases h
  | some i =>
    rw [e] at h
    simp only [Option.map_some, Option.some.injEq, Prod.mk.injEq] at h
    exact ⟨i, rfl, by rw [h.1, hz]⟩
theorem fs_of {P : Program} {t : TypeId} {fields : Array Field} {l : List (Nat × Nat)} {i o ft : Nat} (h : P.underlying t = some (.struct fields)) (hs : fields.size = l.length) (g : l[i]? = some (o, ft)) (hb : fields.toList.map (fun f => (f.offset, f.type)) = l) :
    ∃ fields f, P.underlying t = some (.struct fields) ∧ fields.size = l.length ∧ fields[i]? = some f ∧ f.offset = o ∧ f.type = ft := by
  subst hb
  rw [List.getElem?_map, Option.map_eq_some_iff] at g
  obtain ⟨f, hf, he⟩ := g
  rw [Array.getElem?_toList] at hf
  exact ⟨fields, f, h, hs, hf, congrArg Prod.fst he, congrArg Prod.snd he⟩
theorem hT : TOk Tryz.prog T := by
  constructor
  · intro t r h
    unfold T at h
    split at h
    · cases h; exact info_of (z := .agg #[.slice none 0 0, .slice none 0 0]) (by kernel_rfl) rfl rfl rfl
    · cases h; exact info_of (z := .slice none 0 0) (by kernel_rfl) rfl rfl rfl
    · cases h; exact info_of (z := .slice none 0 0) (by kernel_rfl) rfl rfl rfl
    · cases h; exact info_of (z := .int .i64 0) (by kernel_rfl) rfl rfl rfl
    · cases h; exact info_of (z := .int .i64 0) (by kernel_rfl) rfl rfl rfl
    · cases h; exact info_of (z := .bool false) (by kernel_rfl) rfl rfl rfl
    · cases h; exact info_of (z := .int .u8 0) (by kernel_rfl) rfl rfl rfl
    · cases h; exact info_of (z := .string ByteArray.empty) (by kernel_rfl) rfl rfl rfl
    · cases h; exact info_of (z := .agg #[.slice none 0 0, .bool false]) (by kernel_rfl) rfl rfl rfl
    · cases h; exact info_of (z := .slice none 0 0) (by kernel_rfl) rfl rfl rfl
    · cases h; exact info_of (z := .slice none 0 0) (by kernel_rfl) rfl rfl rfl
    · cases h; exact info_of (z := .int .u64 0) (by kernel_rfl) rfl rfl rfl
    · cases h; exact info_of (z := .int .i64 0) (by kernel_rfl) rfl rfl rfl
    · cases h; exact info_of (z := .int .i32 0) (by kernel_rfl) rfl rfl rfl
    · cases h; exact info_of (z := .agg #[.slice none 0 0, .string ByteArray.empty, .slice none 0 0, .int .i64 0, .int .i64 0, .slice none 0 0, .string ByteArray.empty]) (by kernel_rfl) rfl rfl rfl
    · cases h; exact info_of (z := .agg #[.int .i64 0, .int .i64 0, .string ByteArray.empty]) (by kernel_rfl) rfl rfl rfl
    · cases h; exact info_of (z := .agg #[.slice none 0 0, .string ByteArray.empty]) (by kernel_rfl) rfl rfl rfl
    · cases h; exact info_of (z := .agg #[.int .i64 0, .int .i64 0, .string ByteArray.empty]) (by kernel_rfl) rfl rfl rfl
    · cases h; exact info_of (z := .agg #[.slice none 0 0, .string ByteArray.empty]) (by kernel_rfl) rfl rfl rfl
    · cases h; exact info_of (z := .agg #[.slice none 0 0, .string ByteArray.empty, .slice none 0 0, .int .i64 0, .int .i64 0, .slice none 0 0, .string ByteArray.empty]) (by kernel_rfl) rfl rfl rfl
    · cases h; exact info_of (z := .slice none 0 0) (by kernel_rfl) rfl rfl rfl
    · cases h; exact info_of (z := .agg #[.slice none 0 0]) (by kernel_rfl) rfl rfl rfl
    · cases h; exact info_of (z := .pointer none) (by kernel_rfl) rfl rfl rfl
    · cases h; exact info_of (z := .slice none 0 0) (by kernel_rfl) rfl rfl rfl
    · cases h; exact info_of (z := .int .u64 0) (by kernel_rfl) rfl rfl rfl
    · cases h; exact info_of (z := .slice none 0 0) (by kernel_rfl) rfl rfl rfl
    · cases h; exact info_of (z := .slice none 0 0) (by kernel_rfl) rfl rfl rfl
    · cases h; exact info_of (z := .nilFunc) (by kernel_rfl) rfl rfl rfl
    · cases h; exact info_of (z := .nilFunc) (by kernel_rfl) rfl rfl rfl
    · cases h; exact info_of (z := .nilFunc) (by kernel_rfl) rfl rfl rfl
    · cases h; exact info_of (z := .nilFunc) (by kernel_rfl) rfl rfl rfl
    · cases h; exact info_of (z := .nilFunc) (by kernel_rfl) rfl rfl rfl
    · cases h; exact info_of (z := .map none) (by kernel_rfl) rfl rfl rfl
    · cases h; exact info_of (z := .map none) (by kernel_rfl) rfl rfl rfl
    · cases h; exact info_of (z := .nilFunc) (by kernel_rfl) rfl rfl rfl
    · cases h; exact info_of (z := .nilFunc) (by kernel_rfl) rfl rfl rfl
    · cases h; exact info_of (z := .agg #[.string ByteArray.empty, .nilFunc]) (by kernel_rfl) rfl rfl rfl
    · cases h; exact info_of (z := .slice none 0 0) (by kernel_rfl) rfl rfl rfl
    · cases h; exact info_of (z := .agg #[.int .i64 0, .slice none 0 0, .string ByteArray.empty]) (by kernel_rfl) rfl rfl rfl
    · cases h; exact info_of (z := .slice none 0 0) (by kernel_rfl) rfl rfl rfl
    · cases h; exact info_of (z := .agg #[.slice none 0 0, .string ByteArray.empty, .slice none 0 0, .int .i64 0, .int .i64 0, .slice none 0 0, .string ByteArray.empty, .slice none 0 0, .map none, .int .i64 0, .int .i64 0, .slice none 0 0]) (by kernel_rfl) rfl rfl rfl
    · cases h; exact info_of (z := .pointer none) (by kernel_rfl) rfl rfl rfl
    · cases h; exact info_of (z := .map none) (by kernel_rfl) rfl rfl rfl
    · cases h; exact info_of (z := .slice none 0 0) (by kernel_rfl) rfl rfl rfl
    · cases h; exact info_of (z := .int .i8 0) (by kernel_rfl) rfl rfl rfl
    · cases h; exact info_of (z := .agg #[.int .i64 0, .int .i64 0, .int .i64 0, .int .i64 0, .int .i64 0]) (by kernel_rfl) rfl rfl rfl
    · cases h; exact info_of (z := .agg #[.int .u8 0, .int .u8 0, .int .u8 0]) (by kernel_rfl) rfl rfl rfl
    · cases h; exact info_of (z := .agg #[.int .i64 0, .slice none 0 0, .string ByteArray.empty]) (by kernel_rfl) rfl rfl rfl
    · cases h; exact info_of (z := .slice none 0 0) (by kernel_rfl) rfl rfl rfl
    · cases h; exact info_of (z := .nilFunc) (by kernel_rfl) rfl rfl rfl
    · cases h; exact info_of (z := .nilFunc) (by kernel_rfl) rfl rfl rfl
    · cases h; exact info_of (z := .nilIface) (by kernel_rfl) rfl rfl rfl
    · cases h; exact info_of (z := .nilFunc) (by kernel_rfl) rfl rfl rfl
    · cases h; exact info_of (z := .nilFunc) (by kernel_rfl) rfl rfl rfl
    · cases h
  · intro t r h
    unfold T at h
    split at h
    · cases h; exact ⟨_, Tryz.underlying47, rfl⟩
    · cases h; exact ⟨_, Tryz.underlying45, rfl⟩
    · cases h; exact ⟨_, Tryz.underlying31, rfl⟩
    · cases h; exact ⟨_, Tryz.underlying3, rfl⟩
    · cases h; exact ⟨_, Tryz.underlying2, rfl⟩
    · cases h; exact ⟨_, Tryz.underlying4, rfl⟩
    · cases h; exact ⟨_, Tryz.underlying5, rfl⟩
    · cases h; exact ⟨_, Tryz.underlying9, rfl⟩
    · cases h; exact ⟨_, Tryz.underlying176, rfl⟩
    · cases h; exact ⟨_, Tryz.underlying174, rfl⟩
    · cases h; exact ⟨_, Tryz.underlying173, rfl⟩
    · cases h; exact ⟨_, Tryz.underlying205, rfl⟩
    · cases h; exact ⟨_, Tryz.underlying34, rfl⟩
    · cases h; exact ⟨_, Tryz.underlying21, rfl⟩
    · cases h; exact ⟨_, Tryz.underlying33, rfl⟩
    · cases h; exact ⟨_, Tryz.underlying87, rfl⟩
    · cases h; exact ⟨_, Tryz.underlying30, rfl⟩
    · cases h; exact ⟨_, Tryz.underlying81, rfl⟩
    · cases h; exact ⟨_, Tryz.underlying24, rfl⟩
    · cases h; exact ⟨_, Tryz.underlying39, rfl⟩
    · cases h; exact ⟨_, Tryz.underlying22, rfl⟩
    · cases h; exact ⟨_, Tryz.underlying133, rfl⟩
    · cases h; exact ⟨_, Tryz.underlying168, rfl⟩
    · cases h; exact ⟨_, Tryz.underlying25, rfl⟩
    · cases h; exact ⟨_, Tryz.underlying220, rfl⟩
    · cases h; exact ⟨_, Tryz.underlying198, rfl⟩
    · cases h; exact ⟨_, Tryz.underlying28, rfl⟩
    · cases h; exact ⟨_, Tryz.underlying119, rfl⟩
    · cases h; exact ⟨_, Tryz.underlying155, rfl⟩
    · cases h; exact ⟨_, Tryz.underlying75, rfl⟩
    · cases h; exact ⟨_, Tryz.underlying234, rfl⟩
    · cases h; exact ⟨_, Tryz.underlying172, rfl⟩
    · cases h; exact ⟨_, Tryz.underlying140, rfl⟩
    · cases h; exact ⟨_, Tryz.underlying170, rfl⟩
    · cases h; exact ⟨_, Tryz.underlying135, rfl⟩
    · cases h; exact ⟨_, Tryz.underlying169, rfl⟩
    · cases h; exact ⟨_, Tryz.underlying193, rfl⟩
    · cases h; exact ⟨_, Tryz.underlying195, rfl⟩
    · cases h; exact ⟨_, Tryz.underlying78, rfl⟩
    · cases h; exact ⟨_, Tryz.underlying64, rfl⟩
    · cases h; exact ⟨_, Tryz.underlying110, rfl⟩
    · cases h; exact ⟨_, Tryz.underlying106, rfl⟩
    · cases h; exact ⟨_, Tryz.underlying107, rfl⟩
    · cases h; exact ⟨_, Tryz.underlying108, rfl⟩
    · cases h; exact ⟨_, Tryz.underlying219, rfl⟩
    · cases h; exact ⟨_, Tryz.underlying162, rfl⟩
    · cases h; exact ⟨_, Tryz.underlying83, rfl⟩
    · cases h; exact ⟨_, Tryz.underlying104, rfl⟩
    · cases h; exact ⟨_, Tryz.underlying60, rfl⟩
    · cases h; exact ⟨_, Tryz.underlying191, rfl⟩
    · cases h; exact ⟨_, Tryz.underlying197, rfl⟩
    · cases h; exact ⟨_, Tryz.underlying184, rfl⟩
    · cases h; exact ⟨_, Tryz.underlying188, rfl⟩
    · cases h; exact ⟨_, Tryz.underlying166, rfl⟩
    · cases h
  · intro t r e h g
    unfold T at h
    split at h
    · cases h; cases g
    · cases h; cases g; exact Tryz.underlying45
    · cases h; cases g; exact Tryz.underlying31
    · cases h; cases g
    · cases h; cases g
    · cases h; cases g
    · cases h; cases g
    · cases h; cases g
    · cases h; cases g
    · cases h; cases g; exact Tryz.underlying174
    · cases h; cases g; exact Tryz.underlying173
    · cases h; cases g
    · cases h; cases g
    · cases h; cases g
    · cases h; cases g
    · cases h; cases g
    · cases h; cases g
    · cases h; cases g
    · cases h; cases g
    · cases h; cases g
    · cases h; cases g; exact Tryz.underlying22
    · cases h; cases g
    · cases h; cases g
    · cases h; cases g; exact Tryz.underlying25
    · cases h; cases g
    · cases h; cases g; exact Tryz.underlying198
    · cases h; cases g; exact Tryz.underlying28
    · cases h; cases g
    · cases h; cases g
    · cases h; cases g
    · cases h; cases g
    · cases h; cases g
    · cases h; cases g
    · cases h; cases g
    · cases h; cases g
    · cases h; cases g
    · cases h; cases g
    · cases h; cases g; exact Tryz.underlying195
    · cases h; cases g
    · cases h; cases g; exact Tryz.underlying64
    · cases h; cases g
    · cases h; cases g
    · cases h; cases g
    · cases h; cases g; exact Tryz.underlying108
    · cases h; cases g
    · cases h; cases g
    · cases h; cases g
    · cases h; cases g
    · cases h; cases g; exact Tryz.underlying60
    · cases h; cases g
    · cases h; cases g
    · cases h; cases g
    · cases h; cases g
    · cases h; cases g
    · cases h
  · intro t r i o ft h g
    unfold T at h
    split at h
    · cases h; refine fs_of Tryz.underlying47 rfl (l := _) (g := g) ?_; decide
    · cases h; simp at g
    · cases h; simp at g
    · cases h; simp at g
    · cases h; simp at g
    · cases h; simp at g
    · cases h; simp at g
    · cases h; simp at g
    · cases h; refine fs_of Tryz.underlying176 rfl (l := _) (g := g) ?_; decide
    · cases h; simp at g
    · cases h; simp at g
    · cases h; simp at g
    · cases h; simp at g
    · cases h; simp at g
    · cases h; refine fs_of Tryz.underlying33 rfl (l := _) (g := g) ?_; decide
    · cases h; refine fs_of Tryz.underlying87 rfl (l := _) (g := g) ?_; decide
    · cases h; refine fs_of Tryz.underlying30 rfl (l := _) (g := g) ?_; decide
    · cases h; refine fs_of Tryz.underlying81 rfl (l := _) (g := g) ?_; decide
    · cases h; refine fs_of Tryz.underlying24 rfl (l := _) (g := g) ?_; decide
    · cases h; refine fs_of Tryz.underlying39 rfl (l := _) (g := g) ?_; decide
    · cases h; simp at g
    · cases h; refine fs_of Tryz.underlying133 rfl (l := _) (g := g) ?_; decide
    · cases h; simp at g
    · cases h; simp at g
    · cases h; simp at g
    · cases h; simp at g
    · cases h; simp at g
    · cases h; simp at g
    · cases h; simp at g
    · cases h; simp at g
    · cases h; simp at g
    · cases h; simp at g
    · cases h; simp at g
    · cases h; simp at g
    · cases h; simp at g
    · cases h; simp at g
    · cases h; refine fs_of Tryz.underlying193 rfl (l := _) (g := g) ?_; decide
    · cases h; simp at g
    · cases h; refine fs_of Tryz.underlying78 rfl (l := _) (g := g) ?_; decide
    · cases h; simp at g
    · cases h; refine fs_of Tryz.underlying110 rfl (l := _) (g := g) ?_; decide
    · cases h; simp at g
    · cases h; simp at g
    · cases h; simp at g
    · cases h; simp at g
    · cases h; simp at g
    · cases h; simp at g
    · cases h; refine fs_of Tryz.underlying104 rfl (l := _) (g := g) ?_; decide
    · cases h; simp at g
    · cases h; simp at g
    · cases h; simp at g
    · cases h; simp at g
    · cases h; simp at g
    · cases h; simp at g
    · cases h
  · intro t r h g
    unfold T at h
    split at h
    · cases h; exact ⟨_, Tryz.underlying47, by kernel_rfl⟩
    · cases h; exact absurd rfl g
    · cases h; exact absurd rfl g
    · cases h; exact absurd rfl g
    · cases h; exact absurd rfl g
    · cases h; exact absurd rfl g
    · cases h; exact absurd rfl g
    · cases h; exact absurd rfl g
    · cases h; exact ⟨_, Tryz.underlying176, by kernel_rfl⟩
    · cases h; exact absurd rfl g
    · cases h; exact absurd rfl g
    · cases h; exact absurd rfl g
    · cases h; exact absurd rfl g
    · cases h; exact absurd rfl g
    · cases h; exact ⟨_, Tryz.underlying33, by kernel_rfl⟩
    · cases h; exact ⟨_, Tryz.underlying87, by kernel_rfl⟩
    · cases h; exact ⟨_, Tryz.underlying30, by kernel_rfl⟩
    · cases h; exact ⟨_, Tryz.underlying81, by kernel_rfl⟩
    · cases h; exact ⟨_, Tryz.underlying24, by kernel_rfl⟩
    · cases h; exact ⟨_, Tryz.underlying39, by kernel_rfl⟩
    · cases h; exact absurd rfl g
    · cases h; exact ⟨_, Tryz.underlying133, by kernel_rfl⟩
    · cases h; exact absurd rfl g
    · cases h; exact absurd rfl g
    · cases h; exact absurd rfl g
    · cases h; exact absurd rfl g
    · cases h; exact absurd rfl g
    · cases h; exact absurd rfl g
    · cases h; exact absurd rfl g
    · cases h; exact absurd rfl g
    · cases h; exact absurd rfl g
    · cases h; exact absurd rfl g
    · cases h; exact absurd rfl g
    · cases h; exact absurd rfl g
    · cases h; exact absurd rfl g
    · cases h; exact absurd rfl g
    · cases h; exact ⟨_, Tryz.underlying193, by kernel_rfl⟩
    · cases h; exact absurd rfl g
    · cases h; exact ⟨_, Tryz.underlying78, by kernel_rfl⟩
    · cases h; exact absurd rfl g
    · cases h; exact ⟨_, Tryz.underlying110, by kernel_rfl⟩
    · cases h; exact absurd rfl g
    · cases h; exact absurd rfl g
    · cases h; exact absurd rfl g
    · cases h; exact absurd rfl g
    · cases h; exact absurd rfl g
    · cases h; exact absurd rfl g
    · cases h; exact ⟨_, Tryz.underlying104, by kernel_rfl⟩
    · cases h; exact absurd rfl g
    · cases h; exact absurd rfl g
    · cases h; exact absurd rfl g
    · cases h; exact absurd rfl g
    · cases h; exact absurd rfl g
    · cases h; exact absurd rfl g
    · cases h
  · intro t r h
    unfold T at h
    split at h
    · cases h; exact zv_of (z := .agg #[.slice none 0 0, .slice none 0 0]) (by kernel_rfl) rfl
    · cases h; exact zv_of (z := .slice none 0 0) (by kernel_rfl) rfl
    · cases h; exact zv_of (z := .slice none 0 0) (by kernel_rfl) rfl
    · cases h; exact zv_of (z := .int .i64 0) (by kernel_rfl) rfl
    · cases h; exact zv_of (z := .int .i64 0) (by kernel_rfl) rfl
    · cases h; exact zv_of (z := .bool false) (by kernel_rfl) rfl
    · cases h; exact zv_of (z := .int .u8 0) (by kernel_rfl) rfl
    · cases h; exact zv_of (z := .string ByteArray.empty) (by kernel_rfl) rfl
    · cases h; exact zv_of (z := .agg #[.slice none 0 0, .bool false]) (by kernel_rfl) rfl
    · cases h; exact zv_of (z := .slice none 0 0) (by kernel_rfl) rfl
    · cases h; exact zv_of (z := .slice none 0 0) (by kernel_rfl) rfl
    · cases h; exact zv_of (z := .int .u64 0) (by kernel_rfl) rfl
    · cases h; exact zv_of (z := .int .i64 0) (by kernel_rfl) rfl
    · cases h; exact zv_of (z := .int .i32 0) (by kernel_rfl) rfl
    · cases h; exact zv_of (z := .agg #[.slice none 0 0, .string ByteArray.empty, .slice none 0 0, .int .i64 0, .int .i64 0, .slice none 0 0, .string ByteArray.empty]) (by kernel_rfl) rfl
    · cases h; exact zv_of (z := .agg #[.int .i64 0, .int .i64 0, .string ByteArray.empty]) (by kernel_rfl) rfl
    · cases h; exact zv_of (z := .agg #[.slice none 0 0, .string ByteArray.empty]) (by kernel_rfl) rfl
    · cases h; exact zv_of (z := .agg #[.int .i64 0, .int .i64 0, .string ByteArray.empty]) (by kernel_rfl) rfl
    · cases h; exact zv_of (z := .agg #[.slice none 0 0, .string ByteArray.empty]) (by kernel_rfl) rfl
    · cases h; exact zv_of (z := .agg #[.slice none 0 0, .string ByteArray.empty, .slice none 0 0, .int .i64 0, .int .i64 0, .slice none 0 0, .string ByteArray.empty]) (by kernel_rfl) rfl
    · cases h; exact zv_of (z := .slice none 0 0) (by kernel_rfl) rfl
    · cases h; exact zv_of (z := .agg #[.slice none 0 0]) (by kernel_rfl) rfl
    · cases h; exact zv_of (z := .pointer none) (by kernel_rfl) rfl
    · cases h; exact zv_of (z := .slice none 0 0) (by kernel_rfl) rfl
    · cases h; exact zv_of (z := .int .u64 0) (by kernel_rfl) rfl
    · cases h; exact zv_of (z := .slice none 0 0) (by kernel_rfl) rfl
    · cases h; exact zv_of (z := .slice none 0 0) (by kernel_rfl) rfl
    · cases h; exact zv_of (z := .nilFunc) (by kernel_rfl) rfl
    · cases h; exact zv_of (z := .nilFunc) (by kernel_rfl) rfl
    · cases h; exact zv_of (z := .nilFunc) (by kernel_rfl) rfl
    · cases h; exact zv_of (z := .nilFunc) (by kernel_rfl) rfl
    · cases h; exact zv_of (z := .nilFunc) (by kernel_rfl) rfl
    · cases h; exact zv_of (z := .map none) (by kernel_rfl) rfl
    · cases h; exact zv_of (z := .map none) (by kernel_rfl) rfl
    · cases h; exact zv_of (z := .nilFunc) (by kernel_rfl) rfl
    · cases h; exact zv_of (z := .nilFunc) (by kernel_rfl) rfl
    · cases h; exact zv_of (z := .agg #[.string ByteArray.empty, .nilFunc]) (by kernel_rfl) rfl
    · cases h; exact zv_of (z := .slice none 0 0) (by kernel_rfl) rfl
    · cases h; exact zv_of (z := .agg #[.int .i64 0, .slice none 0 0, .string ByteArray.empty]) (by kernel_rfl) rfl
    · cases h; exact zv_of (z := .slice none 0 0) (by kernel_rfl) rfl
    · cases h; exact zv_of (z := .agg #[.slice none 0 0, .string ByteArray.empty, .slice none 0 0, .int .i64 0, .int .i64 0, .slice none 0 0, .string ByteArray.empty, .slice none 0 0, .map none, .int .i64 0, .int .i64 0, .slice none 0 0]) (by kernel_rfl) rfl
    · cases h; exact zv_of (z := .pointer none) (by kernel_rfl) rfl
    · cases h; exact zv_of (z := .map none) (by kernel_rfl) rfl
    · cases h; exact zv_of (z := .slice none 0 0) (by kernel_rfl) rfl
    · cases h; exact zv_of (z := .int .i8 0) (by kernel_rfl) rfl
    · cases h; exact zv_of (z := .agg #[.int .i64 0, .int .i64 0, .int .i64 0, .int .i64 0, .int .i64 0]) (by kernel_rfl) rfl
    · cases h; exact zv_of (z := .agg #[.int .u8 0, .int .u8 0, .int .u8 0]) (by kernel_rfl) rfl
    · cases h; exact zv_of (z := .agg #[.int .i64 0, .slice none 0 0, .string ByteArray.empty]) (by kernel_rfl) rfl
    · cases h; exact zv_of (z := .slice none 0 0) (by kernel_rfl) rfl
    · cases h; exact zv_of (z := .nilFunc) (by kernel_rfl) rfl
    · cases h; exact zv_of (z := .nilFunc) (by kernel_rfl) rfl
    · cases h; exact zv_of (z := .nilIface) (by kernel_rfl) rfl
    · cases h; exact zv_of (z := .nilFunc) (by kernel_rfl) rfl
    · cases h; exact zv_of (z := .nilFunc) (by kernel_rfl) rfl
    · cases h
  · intro t r k h g
    unfold T at h
    split at h
    · cases h; cases g
    · cases h; cases g
    · cases h; cases g
    · cases h; cases g; exact Tryz.underlying3
    · cases h; cases g; exact Tryz.underlying2
    · cases h; cases g; exact Tryz.underlying4
    · cases h; cases g; exact Tryz.underlying5
    · cases h; cases g; exact Tryz.underlying9
    · cases h; cases g
    · cases h; cases g
    · cases h; cases g
    · cases h; cases g; exact Tryz.underlying205
    · cases h; cases g; exact Tryz.underlying34
    · cases h; cases g; exact Tryz.underlying21
    · cases h; cases g
    · cases h; cases g
    · cases h; cases g
    · cases h; cases g
    · cases h; cases g
    · cases h; cases g
    · cases h; cases g
    · cases h; cases g
    · cases h; cases g
    · cases h; cases g
    · cases h; cases g; exact Tryz.underlying220
    · cases h; cases g
    · cases h; cases g
    · cases h; cases g; exact Tryz.underlying119
    · cases h; cases g; exact Tryz.underlying155
    · cases h; cases g; exact Tryz.underlying75
    · cases h; cases g; exact Tryz.underlying234
    · cases h; cases g; exact Tryz.underlying172
    · cases h; cases g; exact Tryz.underlying140
    · cases h; cases g; exact Tryz.underlying170
    · cases h; cases g; exact Tryz.underlying135
    · cases h; cases g; exact Tryz.underlying169
    · cases h; cases g
    · cases h; cases g
    · cases h; cases g
    · cases h; cases g
    · cases h; cases g
    · cases h; cases g
    · cases h; cases g; exact Tryz.underlying107
    · cases h; cases g
    · cases h; cases g; exact Tryz.underlying219
    · cases h; cases g
    · cases h; cases g
    · cases h; cases g
    · cases h; cases g
    · cases h; cases g; exact Tryz.underlying191
    · cases h; cases g; exact Tryz.underlying197
    · cases h; cases g
    · cases h; cases g; exact Tryz.underlying188
    · cases h; cases g; exact Tryz.underlying166
    · cases h
  · intro t r n e h g
    unfold T at h
    split at h
    · cases h; cases g
    · cases h; cases g
    · cases h; cases g
    · cases h; cases g
    · cases h; cases g
    · cases h; cases g
    · cases h; cases g
    · cases h; cases g
    · cases h; cases g
    · cases h; cases g
    · cases h; cases g
    · cases h; cases g
    · cases h; cases g
    · cases h; cases g
    · cases h; cases g
    · cases h; cases g
    · cases h; cases g
    · cases h; cases g
    · cases h; cases g
    · cases h; cases g
    · cases h; cases g
    · cases h; cases g
    · cases h; cases g
    · cases h; cases g
    · cases h; cases g
    · cases h; cases g
    · cases h; cases g
    · cases h; cases g
    · cases h; cases g
    · cases h; cases g
    · cases h; cases g
    · cases h; cases g
    · cases h; cases g
    · cases h; cases g
    · cases h; cases g
    · cases h; cases g
    · cases h; cases g
    · cases h; cases g
    · cases h; cases g
    · cases h; cases g
    · cases h; cases g
    · cases h; cases g
    · cases h; cases g
    · cases h; cases g
    · cases h; cases g
    · cases h; cases g; exact Tryz.underlying162
    · cases h; cases g; exact Tryz.underlying83
    · cases h; cases g
    · cases h; cases g
    · cases h; cases g
    · cases h; cases g
    · cases h; cases g
    · cases h; cases g
    · cases h; cases g
    · cases h
  · intro t r h
    unfold T at h
    split at h
    · cases h; exact ⟨_, Tryz.underlying47, rfl⟩
    · cases h; exact ⟨_, Tryz.underlying45, rfl⟩
    · cases h; exact ⟨_, Tryz.underlying31, rfl⟩
    · cases h; exact ⟨_, Tryz.underlying3, rfl⟩
    · cases h; exact ⟨_, Tryz.underlying2, rfl⟩
    · cases h; exact ⟨_, Tryz.underlying4, rfl⟩
    · cases h; exact ⟨_, Tryz.underlying5, rfl⟩
    · cases h; exact ⟨_, Tryz.underlying9, rfl⟩
    · cases h; exact ⟨_, Tryz.underlying176, rfl⟩
    · cases h; exact ⟨_, Tryz.underlying174, rfl⟩
    · cases h; exact ⟨_, Tryz.underlying173, rfl⟩
    · cases h; exact ⟨_, Tryz.underlying205, rfl⟩
    · cases h; exact ⟨_, Tryz.underlying34, rfl⟩
    · cases h; exact ⟨_, Tryz.underlying21, rfl⟩
    · cases h; exact ⟨_, Tryz.underlying33, rfl⟩
    · cases h; exact ⟨_, Tryz.underlying87, rfl⟩
    · cases h; exact ⟨_, Tryz.underlying30, rfl⟩
    · cases h; exact ⟨_, Tryz.underlying81, rfl⟩
    · cases h; exact ⟨_, Tryz.underlying24, rfl⟩
    · cases h; exact ⟨_, Tryz.underlying39, rfl⟩
    · cases h; exact ⟨_, Tryz.underlying22, rfl⟩
    · cases h; exact ⟨_, Tryz.underlying133, rfl⟩
    · cases h; exact ⟨_, Tryz.underlying168, rfl⟩
    · cases h; exact ⟨_, Tryz.underlying25, rfl⟩
    · cases h; exact ⟨_, Tryz.underlying220, rfl⟩
    · cases h; exact ⟨_, Tryz.underlying198, rfl⟩
    · cases h; exact ⟨_, Tryz.underlying28, rfl⟩
    · cases h; exact ⟨_, Tryz.underlying119, rfl⟩
    · cases h; exact ⟨_, Tryz.underlying155, rfl⟩
    · cases h; exact ⟨_, Tryz.underlying75, rfl⟩
    · cases h; exact ⟨_, Tryz.underlying234, rfl⟩
    · cases h; exact ⟨_, Tryz.underlying172, rfl⟩
    · cases h; exact ⟨_, Tryz.underlying140, rfl⟩
    · cases h; exact ⟨_, Tryz.underlying170, rfl⟩
    · cases h; exact ⟨_, Tryz.underlying135, rfl⟩
    · cases h; exact ⟨_, Tryz.underlying169, rfl⟩
    · cases h; exact ⟨_, Tryz.underlying193, rfl⟩
    · cases h; exact ⟨_, Tryz.underlying195, rfl⟩
    · cases h; exact ⟨_, Tryz.underlying78, rfl⟩
    · cases h; exact ⟨_, Tryz.underlying64, rfl⟩
    · cases h; exact ⟨_, Tryz.underlying110, rfl⟩
    · cases h; exact ⟨_, Tryz.underlying106, rfl⟩
    · cases h; exact ⟨_, Tryz.underlying107, rfl⟩
    · cases h; exact ⟨_, Tryz.underlying108, rfl⟩
    · cases h; exact ⟨_, Tryz.underlying219, rfl⟩
    · cases h; exact ⟨_, Tryz.underlying162, rfl⟩
    · cases h; exact ⟨_, Tryz.underlying83, rfl⟩
    · cases h; exact ⟨_, Tryz.underlying104, rfl⟩
    · cases h; exact ⟨_, Tryz.underlying60, rfl⟩
    · cases h; exact ⟨_, Tryz.underlying191, rfl⟩
    · cases h; exact ⟨_, Tryz.underlying197, rfl⟩
    · cases h; exact ⟨_, Tryz.underlying184, rfl⟩
    · cases h; exact ⟨_, Tryz.underlying188, rfl⟩
    · cases h; exact ⟨_, Tryz.underlying166, rfl⟩
    · cases h
  · intro t r nm f h g
    unfold T at h
    split at h
    · cases h; cases g
    · cases h; cases g
    · cases h; cases g
    · cases h; cases g
    · cases h; cases g
    · cases h; cases g
    · cases h; cases g
    · cases h; cases g
    · cases h; cases g
    · cases h; cases g
    · cases h; cases g
    · cases h; cases g
    · cases h; cases g
    · cases h; cases g
    · cases h; cases g
    · cases h; cases g
    · cases h; cases g
    · cases h; cases g
    · cases h; cases g
    · cases h; cases g
    · cases h; cases g
    · cases h; cases g
    · cases h; cases g
    · cases h; cases g
    · cases h; cases g
    · cases h; cases g
    · cases h; cases g
    · cases h; cases g
    · cases h; cases g
    · cases h; cases g
    · cases h; cases g
    · cases h; cases g
    · cases h; cases g
    · cases h; cases g
    · cases h; cases g
    · cases h; cases g
    · cases h; cases g
    · cases h; cases g
    · cases h; cases g
    · cases h; cases g
    · cases h; cases g
    · cases h; cases g
    · cases h; cases g
    · cases h; cases g
    · cases h; cases g
    · cases h; cases g
    · cases h; cases g
    · cases h; cases g
    · cases h; cases g
    · cases h; cases g
    · cases h; cases g
    · cases h; cases g
    · cases h; cases g
    · cases h; cases g
    · cases h
  · intro t r h g
    unfold T at h
    split at h
    · cases h; cases g
    · cases h; cases g
    · cases h; cases g
    · cases h; cases g
    · cases h; cases g
    · cases h; cases g
    · cases h; cases g
    · cases h; cases g
    · cases h; cases g
    · cases h; cases g
    · cases h; cases g
    · cases h; cases g
    · cases h; cases g
    · cases h; cases g
    · cases h; cases g
    · cases h; exact ⟨_, Tryz.underlying87, by kernel_rfl, by kernel_rfl, by kernel_rfl, rfl⟩
    · cases h; cases g
    · cases h; exact ⟨_, Tryz.underlying81, by kernel_rfl, by kernel_rfl, by kernel_rfl, rfl⟩
    · cases h; cases g
    · cases h; cases g
    · cases h; cases g
    · cases h; cases g
    · cases h; cases g
    · cases h; cases g
    · cases h; cases g
    · cases h; cases g
    · cases h; cases g
    · cases h; cases g
    · cases h; cases g
    · cases h; cases g
    · cases h; cases g
    · cases h; cases g
    · cases h; cases g
    · cases h; cases g
    · cases h; cases g
    · cases h; cases g
    · cases h; cases g
    · cases h; cases g
    · cases h; cases g
    · cases h; cases g
    · cases h; cases g
    · cases h; cases g
    · cases h; cases g
    · cases h; cases g
    · cases h; cases g
    · cases h; cases g
    · cases h; cases g
    · cases h; cases g
    · cases h; cases g
    · cases h; cases g
    · cases h; cases g
    · cases h; cases g
    · cases h; cases g
    · cases h; cases g
    · cases h
theorem hm : Tryz.prog.follows .mixedOrders = true := by kernel_rfl
end Go.Proofs.YtkhgpnbhnipndaaGreatDoor.Am
end
