/-
  No cell of these rows narrows 'for every input' (looked for: loops, veiled, ifaces, maps, wideKeys, modest, calm, conditions, laid).
  DERIVED. THE GIVEN ROWS OF THIS SEAT. 6 by the template 'for every input the law returns true; each argument reads behind the call as it read before'; 0 by the template 'total and deterministic' (their statements: YtjhdnaahmiiegaaTotals.lean).
  GIVEN WITH THE SEED: the statements are not yours to turn. If you find one false, say at which input.
  Laid BY PROGRAM, IN A SANDBOX (cutbox-rows.mjs): the forced cells as the released guide's own fill.sh prints them over the translation 644983851d6e7c61… (all of the seat's roots in one cut). By AI agents, Wed Nov 11 2026. No macro, syntax, notation, axiom, sorry.
-/
import Derived.Test.YtjhdnaahmiiegaaChecked
import GoSem.Claim
import GoSem.ClaimJoined
import GoSem.ClaimMapViews
import Derived.JoinedTies
import Derived.KernelRfl
namespace Go.Proofs.Ytjhdnaahmiiegaa
/- THE CELL 'sum', in the pinned program and in every row, IS THE sha256 OF THE DUMP (.gsa) THAT YtjhdnaahmiiegaaProg.lean LOADS. Nothing in Lean hashes anything: it is a label: what it is worth is what the hold of that sum in a sandbox is worth. -/
noncomputable def Try.pinned : Pinned := { name := "ytjhdnaahmiiegaa", sum := "644983851d6e7c615ad9912e160cdff4aab13218af0cebd6643beec46be5fa4d", checked := Try.checked }
namespace Rows
def none {H : Type} : Left H := { results := [], args := [] }

/-- 'reredoslaw03.ShapeItems': WHATEVER THE INPUT: true; the input reads as it did. -/
def shapeItemsSpec : ChangeSpec := { name := "shapeItems", fn := fun _ => fun
  | [d] => { results := [.lit (.bool true)], args := [d] }
  | _ => none }
def shapeItemsRow : OpenClaim := { program := "ytjhdnaahmiiegaa", sum := "644983851d6e7c615ad9912e160cdff4aab13218af0cebd6643beec46be5fa4d", func := "reredos/reredoslaw03.ShapeItems", spec := "shapeItems", unfollowed := true, recurses := true, apart := false }
def ShapeItemsSaid : Prop := shapeItemsRow.holds Try.pinned (OpenSpec.ofChange shapeItemsSpec)

/-- ITS FALSE NEIGHBOUR: 'it returns false'. Refute it at one input. -/
def shapeItemsWrong : ChangeSpec := { name := "shapeItems", fn := fun _ => fun
  | [d] => { results := [.lit (.bool false)], args := [d] }
  | _ => none }
def ShapeItemsWrongFalsely : Prop := shapeItemsRow.holds Try.pinned (OpenSpec.ofChange shapeItemsWrong)

/-- 'reredoslaw03.ShapeTells': WHATEVER THE INPUT: true; the input reads as it did. -/
def shapeTellsSpec : ChangeSpec := { name := "shapeTells", fn := fun _ => fun
  | [d1, d2, d3] => { results := [.lit (.bool true)], args := [d1, d2, d3] }
  | _ => none }
def shapeTellsRow : OpenClaim := { program := "ytjhdnaahmiiegaa", sum := "644983851d6e7c615ad9912e160cdff4aab13218af0cebd6643beec46be5fa4d", func := "reredos/reredoslaw03.ShapeTells", spec := "shapeTells", unfollowed := true, recurses := true, apart := false }
def ShapeTellsSaid : Prop := shapeTellsRow.holds Try.pinned (OpenSpec.ofChange shapeTellsSpec)

/-- ITS FALSE NEIGHBOUR: 'it returns false'. Refute it at one input. -/
def shapeTellsWrong : ChangeSpec := { name := "shapeTells", fn := fun _ => fun
  | [d1, d2, d3] => { results := [.lit (.bool false)], args := [d1, d2, d3] }
  | _ => none }
def ShapeTellsWrongFalsely : Prop := shapeTellsRow.holds Try.pinned (OpenSpec.ofChange shapeTellsWrong)

/-- 'reredoslaw03.ShapeBack': WHATEVER THE INPUT: true; the input reads as it did. -/
def shapeBackSpec : ChangeSpec := { name := "shapeBack", fn := fun _ => fun
  | [d1, d2] => { results := [.lit (.bool true)], args := [d1, d2] }
  | _ => none }
def shapeBackRow : OpenClaim := { program := "ytjhdnaahmiiegaa", sum := "644983851d6e7c615ad9912e160cdff4aab13218af0cebd6643beec46be5fa4d", func := "reredos/reredoslaw03.ShapeBack", spec := "shapeBack", unfollowed := true, recurses := true, apart := false }
def ShapeBackSaid : Prop := shapeBackRow.holds Try.pinned (OpenSpec.ofChange shapeBackSpec)

/-- ITS FALSE NEIGHBOUR: 'it returns false'. Refute it at one input. -/
def shapeBackWrong : ChangeSpec := { name := "shapeBack", fn := fun _ => fun
  | [d1, d2] => { results := [.lit (.bool false)], args := [d1, d2] }
  | _ => none }
def ShapeBackWrongFalsely : Prop := shapeBackRow.holds Try.pinned (OpenSpec.ofChange shapeBackWrong)

/-- 'reredoslaw03.ShapeRises': WHATEVER THE INPUT: true; the input reads as it did. -/
def shapeRisesSpec : ChangeSpec := { name := "shapeRises", fn := fun _ => fun
  | [d1, d2, d3] => { results := [.lit (.bool true)], args := [d1, d2, d3] }
  | _ => none }
def shapeRisesRow : OpenClaim := { program := "ytjhdnaahmiiegaa", sum := "644983851d6e7c615ad9912e160cdff4aab13218af0cebd6643beec46be5fa4d", func := "reredos/reredoslaw03.ShapeRises", spec := "shapeRises", unfollowed := true, recurses := true, apart := false }
def ShapeRisesSaid : Prop := shapeRisesRow.holds Try.pinned (OpenSpec.ofChange shapeRisesSpec)

/-- ITS FALSE NEIGHBOUR: 'it returns false'. Refute it at one input. -/
def shapeRisesWrong : ChangeSpec := { name := "shapeRises", fn := fun _ => fun
  | [d1, d2, d3] => { results := [.lit (.bool false)], args := [d1, d2, d3] }
  | _ => none }
def ShapeRisesWrongFalsely : Prop := shapeRisesRow.holds Try.pinned (OpenSpec.ofChange shapeRisesWrong)

/-- 'reredoslaw03.ShapeOrder': WHATEVER THE INPUT: true; the input reads as it did. -/
def shapeOrderSpec : ChangeSpec := { name := "shapeOrder", fn := fun _ => fun
  | [d1, d2] => { results := [.lit (.bool true)], args := [d1, d2] }
  | _ => none }
def shapeOrderRow : OpenClaim := { program := "ytjhdnaahmiiegaa", sum := "644983851d6e7c615ad9912e160cdff4aab13218af0cebd6643beec46be5fa4d", func := "reredos/reredoslaw03.ShapeOrder", spec := "shapeOrder", unfollowed := true, recurses := true, apart := false }
def ShapeOrderSaid : Prop := shapeOrderRow.holds Try.pinned (OpenSpec.ofChange shapeOrderSpec)

/-- ITS FALSE NEIGHBOUR: 'it returns false'. Refute it at one input. -/
def shapeOrderWrong : ChangeSpec := { name := "shapeOrder", fn := fun _ => fun
  | [d1, d2] => { results := [.lit (.bool false)], args := [d1, d2] }
  | _ => none }
def ShapeOrderWrongFalsely : Prop := shapeOrderRow.holds Try.pinned (OpenSpec.ofChange shapeOrderWrong)

/-- 'reredoslaw03.ShapeMeets': WHATEVER THE INPUT: true; the input reads as it did. -/
def shapeMeetsSpec : ChangeSpec := { name := "shapeMeets", fn := fun _ => fun
  | [d1, d2] => { results := [.lit (.bool true)], args := [d1, d2] }
  | _ => none }
def shapeMeetsRow : OpenClaim := { program := "ytjhdnaahmiiegaa", sum := "644983851d6e7c615ad9912e160cdff4aab13218af0cebd6643beec46be5fa4d", func := "reredos/reredoslaw03.ShapeMeets", spec := "shapeMeets", unfollowed := true, recurses := true, apart := false }
def ShapeMeetsSaid : Prop := shapeMeetsRow.holds Try.pinned (OpenSpec.ofChange shapeMeetsSpec)

/-- ITS FALSE NEIGHBOUR: 'it returns false'. Refute it at one input. -/
def shapeMeetsWrong : ChangeSpec := { name := "shapeMeets", fn := fun _ => fun
  | [d1, d2] => { results := [.lit (.bool false)], args := [d1, d2] }
  | _ => none }
def ShapeMeetsWrongFalsely : Prop := shapeMeetsRow.holds Try.pinned (OpenSpec.ofChange shapeMeetsWrong)

/- THE SECOND FORM. 'bulk': how many values and letters a reading holds, each counted each time it is reached (what is shared counts as often as it is met; a slice's spare places count too). A statement '..UptoSaid' is the law's where the arguments, and the package variables that the reading takes, are together of bulk at most 1048576: NARROWER than '..Said'. Prove '..Said' where nothing that the law and all that it calls make is longer than what came in: it says more and counts as full. Else prove '..UptoSaid'. A law counts once. -/
mutual
def uptoBulk {H : Type} : DataW H → Nat
  | .lit (.string bytes) => bytes.length + 1
  | .lit _ => 1
  | .nil => 1
  | .ptr d => uptoBulk d + 1
  | .slice elems spare => uptoBulkAll elems + uptoBulkAll spare + 1
  | .agg parts => uptoBulkAll parts + 1
  | .iface _ d => uptoBulk d + 1
  | .map entries => uptoBulkEntries entries + 1
  | .held _ => 1
def uptoBulkAll {H : Type} : List (DataW H) → Nat
  | [] => 0
  | d :: r => uptoBulk d + uptoBulkAll r
def uptoBulkEntries {H : Type} : List (Lit × DataW H) → Nat
  | [] => 0
  | x :: r => uptoBulkEntry x + uptoBulkEntries r
def uptoBulkEntry {H : Type} : Lit × DataW H → Nat
  | (.string bytes, d) => bytes.length + uptoBulk d + 1
  | (_, d) => uptoBulk d + 1
 end
def uptoSmall : (H : Type) → List (DataW H) → Bool := fun _ ds => decide (uptoBulkAll ds ≤ 1048576)
def OpenSpec.upto (s : _root_.Go.ChangeSpec) : _root_.Go.OpenSpec := { _root_.Go.OpenSpec.ofChange s with cond := some uptoSmall }

/-- 'reredoslaw03.ShapeItems', WHERE WHAT IT READS IS OF BULK AT MOST 1048576: true; the input reads as it did. -/
def shapeItemsUptoRow : OpenClaim := { program := "ytjhdnaahmiiegaa", sum := "644983851d6e7c615ad9912e160cdff4aab13218af0cebd6643beec46be5fa4d", func := "reredos/reredoslaw03.ShapeItems", spec := "shapeItems", unfollowed := true, recurses := true, apart := false, narrowed := true }
def ShapeItemsUptoSaid : Prop := shapeItemsUptoRow.holds Try.pinned (OpenSpec.upto shapeItemsSpec)

/-- 'reredoslaw03.ShapeTells', WHERE WHAT IT READS IS OF BULK AT MOST 1048576: true; the input reads as it did. -/
def shapeTellsUptoRow : OpenClaim := { program := "ytjhdnaahmiiegaa", sum := "644983851d6e7c615ad9912e160cdff4aab13218af0cebd6643beec46be5fa4d", func := "reredos/reredoslaw03.ShapeTells", spec := "shapeTells", unfollowed := true, recurses := true, apart := false, narrowed := true }
def ShapeTellsUptoSaid : Prop := shapeTellsUptoRow.holds Try.pinned (OpenSpec.upto shapeTellsSpec)

/-- 'reredoslaw03.ShapeBack', WHERE WHAT IT READS IS OF BULK AT MOST 1048576: true; the input reads as it did. -/
def shapeBackUptoRow : OpenClaim := { program := "ytjhdnaahmiiegaa", sum := "644983851d6e7c615ad9912e160cdff4aab13218af0cebd6643beec46be5fa4d", func := "reredos/reredoslaw03.ShapeBack", spec := "shapeBack", unfollowed := true, recurses := true, apart := false, narrowed := true }
def ShapeBackUptoSaid : Prop := shapeBackUptoRow.holds Try.pinned (OpenSpec.upto shapeBackSpec)

/-- 'reredoslaw03.ShapeRises', WHERE WHAT IT READS IS OF BULK AT MOST 1048576: true; the input reads as it did. -/
def shapeRisesUptoRow : OpenClaim := { program := "ytjhdnaahmiiegaa", sum := "644983851d6e7c615ad9912e160cdff4aab13218af0cebd6643beec46be5fa4d", func := "reredos/reredoslaw03.ShapeRises", spec := "shapeRises", unfollowed := true, recurses := true, apart := false, narrowed := true }
def ShapeRisesUptoSaid : Prop := shapeRisesUptoRow.holds Try.pinned (OpenSpec.upto shapeRisesSpec)

/-- 'reredoslaw03.ShapeOrder', WHERE WHAT IT READS IS OF BULK AT MOST 1048576: true; the input reads as it did. -/
def shapeOrderUptoRow : OpenClaim := { program := "ytjhdnaahmiiegaa", sum := "644983851d6e7c615ad9912e160cdff4aab13218af0cebd6643beec46be5fa4d", func := "reredos/reredoslaw03.ShapeOrder", spec := "shapeOrder", unfollowed := true, recurses := true, apart := false, narrowed := true }
def ShapeOrderUptoSaid : Prop := shapeOrderUptoRow.holds Try.pinned (OpenSpec.upto shapeOrderSpec)

/-- 'reredoslaw03.ShapeMeets', WHERE WHAT IT READS IS OF BULK AT MOST 1048576: true; the input reads as it did. -/
def shapeMeetsUptoRow : OpenClaim := { program := "ytjhdnaahmiiegaa", sum := "644983851d6e7c615ad9912e160cdff4aab13218af0cebd6643beec46be5fa4d", func := "reredos/reredoslaw03.ShapeMeets", spec := "shapeMeets", unfollowed := true, recurses := true, apart := false, narrowed := true }
def ShapeMeetsUptoSaid : Prop := shapeMeetsUptoRow.holds Try.pinned (OpenSpec.upto shapeMeetsSpec)

end Rows
end Go.Proofs.Ytjhdnaahmiiegaa
