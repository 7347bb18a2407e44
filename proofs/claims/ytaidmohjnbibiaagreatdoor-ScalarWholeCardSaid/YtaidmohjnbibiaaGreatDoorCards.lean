/-
  DERIVED. GIVEN WITH THE SEED: THE CARDS: each row of YtaidmohjnbibiaaGreatDoorRows.lean that lists a variable, with what it lists TIED to the program's text (the seventh form; the later family's looks); each row that meets fmt, with fmt's text TOLD by the authors' own Lean function (tested against real Go, not proved from fmt's source: count such statements apart). THE CARD IS WHAT COUNTS. Prove the row's statement (the work); the ties are given (YtaidmohjnbibiaaGreatDoorTie.lean); close each card by the builder's one call (the guide's Derived/Test/ToyasCard.lean, 'card_holds'). Laid BY PROGRAM, IN A SANDBOX (cutbox-door.mjs). By AI agents, Wed Nov 11 2026. No macro, syntax, notation, axiom, sorry.
-/
import Derived.Test.YtaidmohjnbibiaaGreatDoorRows
import GoSem.ClaimSeven
namespace Go.Proofs.YtaidmohjnbibiaaGreatDoor
namespace Rows

/-- THE TIED CARD OF 'reredoslaw12.ScalarOrder'. -/
def scalarOrderCard : Claim7 := { stood := { row := scalarOrderRow, standIns := [], harness := (true, "c2c028c7bb4cd42299a2664aca902822035524b69532adf1410a83d2b2c58c99"), looks := true }, kinds := [], alts := [], laidByText := true, laidKinds := [.data, .data, .data, .sentinel, .sentinel], laidTests := true, laidLooks := .later }
def ScalarOrderCardSaid : Prop := Claim7.holds Tryz.pinned (.plain (OpenSpec.ofChange scalarOrderSpec)) scalarOrderCard

/-- THE TIED CARD OF 'reredoslaw12.ScalarMod'. -/
def scalarModCard : Claim7 := { stood := { row := scalarModRow, standIns := [], harness := (true, "c2c028c7bb4cd42299a2664aca902822035524b69532adf1410a83d2b2c58c99"), looks := true }, kinds := [], alts := [], laidByText := true, laidKinds := [.data, .data, .data, .sentinel, .sentinel], laidTests := true, laidLooks := .later }
def ScalarModCardSaid : Prop := Claim7.holds Tryz.pinned (.plain (OpenSpec.ofChange scalarModSpec)) scalarModCard

/-- THE TIED CARD OF 'reredoslaw12.ScalarUnits'. -/
def scalarUnitsCard : Claim7 := { stood := { row := scalarUnitsRow, standIns := [], harness := (true, "c2c028c7bb4cd42299a2664aca902822035524b69532adf1410a83d2b2c58c99"), looks := true }, kinds := [], alts := [], laidByText := true, laidKinds := [.data, .data, .data, .sentinel, .sentinel], laidTests := true, laidLooks := .later }
def ScalarUnitsCardSaid : Prop := Claim7.holds Tryz.pinned (.plain (OpenSpec.ofChange scalarUnitsSpec)) scalarUnitsCard

/-- THE TIED CARD OF 'reredoslaw12.ScalarBits'. -/
def scalarBitsCard : Claim7 := { stood := { row := scalarBitsRow, standIns := [], harness := (true, "c2c028c7bb4cd42299a2664aca902822035524b69532adf1410a83d2b2c58c99"), looks := true }, kinds := [], alts := [], laidByText := true, laidKinds := [.data, .data, .data, .sentinel, .sentinel], laidTests := true, laidLooks := .later }
def ScalarBitsCardSaid : Prop := Claim7.holds Tryz.pinned (.plain (OpenSpec.ofChange scalarBitsSpec)) scalarBitsCard

/-- THE TIED CARD OF 'reredoslaw12.ScalarWhole'. -/
def scalarWholeCard : Claim7 := { stood := { row := scalarWholeRow, standIns := [], harness := (true, "c2c028c7bb4cd42299a2664aca902822035524b69532adf1410a83d2b2c58c99"), looks := true }, kinds := [], alts := [], laidByText := true, laidKinds := [.data, .data, .data, .sentinel, .sentinel], laidTests := true, laidLooks := .later }
def ScalarWholeCardSaid : Prop := Claim7.holds Tryz.pinned (.plain (OpenSpec.ofChange scalarWholeSpec)) scalarWholeCard

/-- THE TIED CARD OF 'reredoslaw12.ScalarTells'. -/
def scalarTellsCard : Claim7 := { stood := { row := scalarTellsRow, standIns := [], harness := (true, "c2c028c7bb4cd42299a2664aca902822035524b69532adf1410a83d2b2c58c99"), looks := true }, kinds := [], alts := [], laidByText := true, laidKinds := [.data, .data, .data, .sentinel, .sentinel], laidTests := true, laidLooks := .later }
def ScalarTellsCardSaid : Prop := Claim7.holds Tryz.pinned (.plain (OpenSpec.ofChange scalarTellsSpec)) scalarTellsCard

/-- THE SECOND FORM's CARD OF 'reredoslaw12.ScalarOrder'. -/
def scalarOrderUptoCard : Claim7 := { stood := { row := scalarOrderUptoRow, standIns := [], harness := (true, "c2c028c7bb4cd42299a2664aca902822035524b69532adf1410a83d2b2c58c99"), looks := true }, kinds := [], alts := [], laidByText := true, laidKinds := [.data, .data, .data, .sentinel, .sentinel], laidTests := true, laidLooks := .later }
def ScalarOrderUptoCardSaid : Prop := Claim7.holds Tryz.pinned (.plain (OpenSpec.upto scalarOrderSpec)) scalarOrderUptoCard

/-- THE SECOND FORM's CARD OF 'reredoslaw12.ScalarMod'. -/
def scalarModUptoCard : Claim7 := { stood := { row := scalarModUptoRow, standIns := [], harness := (true, "c2c028c7bb4cd42299a2664aca902822035524b69532adf1410a83d2b2c58c99"), looks := true }, kinds := [], alts := [], laidByText := true, laidKinds := [.data, .data, .data, .sentinel, .sentinel], laidTests := true, laidLooks := .later }
def ScalarModUptoCardSaid : Prop := Claim7.holds Tryz.pinned (.plain (OpenSpec.upto scalarModSpec)) scalarModUptoCard

/-- THE SECOND FORM's CARD OF 'reredoslaw12.ScalarUnits'. -/
def scalarUnitsUptoCard : Claim7 := { stood := { row := scalarUnitsUptoRow, standIns := [], harness := (true, "c2c028c7bb4cd42299a2664aca902822035524b69532adf1410a83d2b2c58c99"), looks := true }, kinds := [], alts := [], laidByText := true, laidKinds := [.data, .data, .data, .sentinel, .sentinel], laidTests := true, laidLooks := .later }
def ScalarUnitsUptoCardSaid : Prop := Claim7.holds Tryz.pinned (.plain (OpenSpec.upto scalarUnitsSpec)) scalarUnitsUptoCard

/-- THE SECOND FORM's CARD OF 'reredoslaw12.ScalarBits'. -/
def scalarBitsUptoCard : Claim7 := { stood := { row := scalarBitsUptoRow, standIns := [], harness := (true, "c2c028c7bb4cd42299a2664aca902822035524b69532adf1410a83d2b2c58c99"), looks := true }, kinds := [], alts := [], laidByText := true, laidKinds := [.data, .data, .data, .sentinel, .sentinel], laidTests := true, laidLooks := .later }
def ScalarBitsUptoCardSaid : Prop := Claim7.holds Tryz.pinned (.plain (OpenSpec.upto scalarBitsSpec)) scalarBitsUptoCard

/-- THE SECOND FORM's CARD OF 'reredoslaw12.ScalarWhole'. -/
def scalarWholeUptoCard : Claim7 := { stood := { row := scalarWholeUptoRow, standIns := [], harness := (true, "c2c028c7bb4cd42299a2664aca902822035524b69532adf1410a83d2b2c58c99"), looks := true }, kinds := [], alts := [], laidByText := true, laidKinds := [.data, .data, .data, .sentinel, .sentinel], laidTests := true, laidLooks := .later }
def ScalarWholeUptoCardSaid : Prop := Claim7.holds Tryz.pinned (.plain (OpenSpec.upto scalarWholeSpec)) scalarWholeUptoCard

/-- THE SECOND FORM's CARD OF 'reredoslaw12.ScalarTells'. -/
def scalarTellsUptoCard : Claim7 := { stood := { row := scalarTellsUptoRow, standIns := [], harness := (true, "c2c028c7bb4cd42299a2664aca902822035524b69532adf1410a83d2b2c58c99"), looks := true }, kinds := [], alts := [], laidByText := true, laidKinds := [.data, .data, .data, .sentinel, .sentinel], laidTests := true, laidLooks := .later }
def ScalarTellsUptoCardSaid : Prop := Claim7.holds Tryz.pinned (.plain (OpenSpec.upto scalarTellsSpec)) scalarTellsUptoCard
end Rows
end Go.Proofs.YtaidmohjnbibiaaGreatDoor
