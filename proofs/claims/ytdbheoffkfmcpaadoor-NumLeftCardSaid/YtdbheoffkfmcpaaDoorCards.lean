/-
  DERIVED. GIVEN WITH THE SEED: THE CARDS: each row of YtdbheoffkfmcpaaDoorRows.lean that lists a variable, with what it lists TIED to the program's text (the seventh form; the later family's looks); each row that meets fmt, with fmt's text TOLD by the authors' own Lean function (tested against real Go, not proved from fmt's source: count such statements apart). THE CARD IS WHAT COUNTS. Prove the row's statement (the work); the ties are given (YtdbheoffkfmcpaaDoorTie.lean); close each card by the builder's one call (the guide's Derived/Test/ToyasCard.lean, 'card_holds'). Laid BY PROGRAM, IN A SANDBOX (cutbox-door.mjs). By AI agents, Wed Nov 11 2026. No macro, syntax, notation, axiom, sorry.
-/
import Derived.Test.YtdbheoffkfmcpaaDoorRows
import GoSem.ClaimSeven
namespace Go.Proofs.YtdbheoffkfmcpaaDoor
namespace Rows

/-- THE TIED CARD OF 'reredoslaw02.WidthLeast'. -/
def widthLeastCard : Claim7 := { stood := { row := widthLeastRow, standIns := [], harness := (true, "cd9132b06b81958c351163fa0af5ea2541322394f212a6c750d31ab7361a06a2"), looks := true }, kinds := [], alts := [], laidByText := true, laidKinds := [.data, .data, .data, .sentinel, .sentinel], laidTests := true, laidLooks := .later }
def WidthLeastCardSaid : Prop := Claim7.holds Tryd.pinned (.plain (OpenSpec.ofChange widthLeastSpec)) widthLeastCard

/-- THE TIED CARD OF 'reredoslaw02.WidthDoes'. -/
def widthDoesCard : Claim7 := { stood := { row := widthDoesRow, standIns := [], harness := (true, "cd9132b06b81958c351163fa0af5ea2541322394f212a6c750d31ab7361a06a2"), looks := true }, kinds := [], alts := [], laidByText := true, laidKinds := [.data, .data, .data, .sentinel, .sentinel], laidTests := true, laidLooks := .later }
def WidthDoesCardSaid : Prop := Claim7.holds Tryd.pinned (.plain (OpenSpec.ofChange widthDoesSpec)) widthDoesCard

/-- THE TIED CARD OF 'reredoslaw02.WidthTells'. -/
def widthTellsCard : Claim7 := { stood := { row := widthTellsRow, standIns := [], harness := (true, "cd9132b06b81958c351163fa0af5ea2541322394f212a6c750d31ab7361a06a2"), looks := true }, kinds := [], alts := [], laidByText := true, laidKinds := [.data, .data, .data, .sentinel, .sentinel], laidTests := true, laidLooks := .later }
def WidthTellsCardSaid : Prop := Claim7.holds Tryd.pinned (.plain (OpenSpec.ofChange widthTellsSpec)) widthTellsCard

/-- THE TIED CARD OF 'reredoslaw02.WidthOrder'. -/
def widthOrderCard : Claim7 := { stood := { row := widthOrderRow, standIns := [], harness := (true, "cd9132b06b81958c351163fa0af5ea2541322394f212a6c750d31ab7361a06a2"), looks := true }, kinds := [], alts := [], laidByText := true, laidKinds := [.data, .data, .data, .sentinel, .sentinel], laidTests := true, laidLooks := .later }
def WidthOrderCardSaid : Prop := Claim7.holds Tryd.pinned (.plain (OpenSpec.ofChange widthOrderSpec)) widthOrderCard

/-- THE TIED CARD OF 'reredoslaw02.WidthBack'. -/
def widthBackCard : Claim7 := { stood := { row := widthBackRow, standIns := [], harness := (true, "cd9132b06b81958c351163fa0af5ea2541322394f212a6c750d31ab7361a06a2"), looks := true }, kinds := [], alts := [], laidByText := true, laidKinds := [.data, .data, .data, .sentinel, .sentinel], laidTests := true, laidLooks := .later }
def WidthBackCardSaid : Prop := Claim7.holds Tryd.pinned (.plain (OpenSpec.ofChange widthBackSpec)) widthBackCard

/-- THE TIED CARD OF 'reredoslaw02.WidthExact'. -/
def widthExactCard : Claim7 := { stood := { row := widthExactRow, standIns := [], harness := (true, "cd9132b06b81958c351163fa0af5ea2541322394f212a6c750d31ab7361a06a2"), looks := true }, kinds := [], alts := [], laidByText := true, laidKinds := [.data, .data, .data, .sentinel, .sentinel], laidTests := true, laidLooks := .later }
def WidthExactCardSaid : Prop := Claim7.holds Tryd.pinned (.plain (OpenSpec.ofChange widthExactSpec)) widthExactCard

/-- THE TIED CARD OF 'reredoslaw01.NumLaws'. -/
def numLawsCard : Claim7 := { stood := { row := numLawsRow, standIns := [], harness := (true, "cd9132b06b81958c351163fa0af5ea2541322394f212a6c750d31ab7361a06a2"), looks := true }, kinds := [], alts := [], laidByText := true, laidKinds := [.data, .data, .data, .sentinel, .sentinel], laidTests := true, laidLooks := .later }
def NumLawsCardSaid : Prop := Claim7.holds Tryd.pinned (.plain (OpenSpec.ofChange numLawsSpec)) numLawsCard

/-- THE TIED CARD OF 'reredoslaw01.NumLeft'. -/
def numLeftCard : Claim7 := { stood := { row := numLeftRow, standIns := [], harness := (true, "cd9132b06b81958c351163fa0af5ea2541322394f212a6c750d31ab7361a06a2"), looks := true }, kinds := [], alts := [], laidByText := true, laidKinds := [.data, .data, .data, .sentinel, .sentinel], laidTests := true, laidLooks := .later }
def NumLeftCardSaid : Prop := Claim7.holds Tryd.pinned (.plain (OpenSpec.ofChange numLeftSpec)) numLeftCard

/-- THE TIED CARD OF 'reredoslaw01.NumOrder'. -/
def numOrderCard : Claim7 := { stood := { row := numOrderRow, standIns := [], harness := (true, "cd9132b06b81958c351163fa0af5ea2541322394f212a6c750d31ab7361a06a2"), looks := true }, kinds := [], alts := [], laidByText := true, laidKinds := [.data, .data, .data, .sentinel, .sentinel], laidTests := true, laidLooks := .later }
def NumOrderCardSaid : Prop := Claim7.holds Tryd.pinned (.plain (OpenSpec.ofChange numOrderSpec)) numOrderCard

/-- THE TIED CARD OF 'reredoslaw01.NumBack'. -/
def numBackCard : Claim7 := { stood := { row := numBackRow, standIns := [], harness := (true, "cd9132b06b81958c351163fa0af5ea2541322394f212a6c750d31ab7361a06a2"), looks := true }, kinds := [], alts := [], laidByText := true, laidKinds := [.data, .data, .data, .sentinel, .sentinel], laidTests := true, laidLooks := .later }
def NumBackCardSaid : Prop := Claim7.holds Tryd.pinned (.plain (OpenSpec.ofChange numBackSpec)) numBackCard

/-- THE SECOND FORM's CARD OF 'reredoslaw02.WidthLeast'. -/
def widthLeastUptoCard : Claim7 := { stood := { row := widthLeastUptoRow, standIns := [], harness := (true, "cd9132b06b81958c351163fa0af5ea2541322394f212a6c750d31ab7361a06a2"), looks := true }, kinds := [], alts := [], laidByText := true, laidKinds := [.data, .data, .data, .sentinel, .sentinel], laidTests := true, laidLooks := .later }
def WidthLeastUptoCardSaid : Prop := Claim7.holds Tryd.pinned (.plain (OpenSpec.upto widthLeastSpec)) widthLeastUptoCard

/-- THE SECOND FORM's CARD OF 'reredoslaw02.WidthDoes'. -/
def widthDoesUptoCard : Claim7 := { stood := { row := widthDoesUptoRow, standIns := [], harness := (true, "cd9132b06b81958c351163fa0af5ea2541322394f212a6c750d31ab7361a06a2"), looks := true }, kinds := [], alts := [], laidByText := true, laidKinds := [.data, .data, .data, .sentinel, .sentinel], laidTests := true, laidLooks := .later }
def WidthDoesUptoCardSaid : Prop := Claim7.holds Tryd.pinned (.plain (OpenSpec.upto widthDoesSpec)) widthDoesUptoCard

/-- THE SECOND FORM's CARD OF 'reredoslaw02.WidthTells'. -/
def widthTellsUptoCard : Claim7 := { stood := { row := widthTellsUptoRow, standIns := [], harness := (true, "cd9132b06b81958c351163fa0af5ea2541322394f212a6c750d31ab7361a06a2"), looks := true }, kinds := [], alts := [], laidByText := true, laidKinds := [.data, .data, .data, .sentinel, .sentinel], laidTests := true, laidLooks := .later }
def WidthTellsUptoCardSaid : Prop := Claim7.holds Tryd.pinned (.plain (OpenSpec.upto widthTellsSpec)) widthTellsUptoCard

/-- THE SECOND FORM's CARD OF 'reredoslaw02.WidthOrder'. -/
def widthOrderUptoCard : Claim7 := { stood := { row := widthOrderUptoRow, standIns := [], harness := (true, "cd9132b06b81958c351163fa0af5ea2541322394f212a6c750d31ab7361a06a2"), looks := true }, kinds := [], alts := [], laidByText := true, laidKinds := [.data, .data, .data, .sentinel, .sentinel], laidTests := true, laidLooks := .later }
def WidthOrderUptoCardSaid : Prop := Claim7.holds Tryd.pinned (.plain (OpenSpec.upto widthOrderSpec)) widthOrderUptoCard

/-- THE SECOND FORM's CARD OF 'reredoslaw02.WidthBack'. -/
def widthBackUptoCard : Claim7 := { stood := { row := widthBackUptoRow, standIns := [], harness := (true, "cd9132b06b81958c351163fa0af5ea2541322394f212a6c750d31ab7361a06a2"), looks := true }, kinds := [], alts := [], laidByText := true, laidKinds := [.data, .data, .data, .sentinel, .sentinel], laidTests := true, laidLooks := .later }
def WidthBackUptoCardSaid : Prop := Claim7.holds Tryd.pinned (.plain (OpenSpec.upto widthBackSpec)) widthBackUptoCard

/-- THE SECOND FORM's CARD OF 'reredoslaw02.WidthExact'. -/
def widthExactUptoCard : Claim7 := { stood := { row := widthExactUptoRow, standIns := [], harness := (true, "cd9132b06b81958c351163fa0af5ea2541322394f212a6c750d31ab7361a06a2"), looks := true }, kinds := [], alts := [], laidByText := true, laidKinds := [.data, .data, .data, .sentinel, .sentinel], laidTests := true, laidLooks := .later }
def WidthExactUptoCardSaid : Prop := Claim7.holds Tryd.pinned (.plain (OpenSpec.upto widthExactSpec)) widthExactUptoCard

/-- THE SECOND FORM's CARD OF 'reredoslaw01.NumLaws'. -/
def numLawsUptoCard : Claim7 := { stood := { row := numLawsUptoRow, standIns := [], harness := (true, "cd9132b06b81958c351163fa0af5ea2541322394f212a6c750d31ab7361a06a2"), looks := true }, kinds := [], alts := [], laidByText := true, laidKinds := [.data, .data, .data, .sentinel, .sentinel], laidTests := true, laidLooks := .later }
def NumLawsUptoCardSaid : Prop := Claim7.holds Tryd.pinned (.plain (OpenSpec.upto numLawsSpec)) numLawsUptoCard

/-- THE SECOND FORM's CARD OF 'reredoslaw01.NumLeft'. -/
def numLeftUptoCard : Claim7 := { stood := { row := numLeftUptoRow, standIns := [], harness := (true, "cd9132b06b81958c351163fa0af5ea2541322394f212a6c750d31ab7361a06a2"), looks := true }, kinds := [], alts := [], laidByText := true, laidKinds := [.data, .data, .data, .sentinel, .sentinel], laidTests := true, laidLooks := .later }
def NumLeftUptoCardSaid : Prop := Claim7.holds Tryd.pinned (.plain (OpenSpec.upto numLeftSpec)) numLeftUptoCard

/-- THE SECOND FORM's CARD OF 'reredoslaw01.NumOrder'. -/
def numOrderUptoCard : Claim7 := { stood := { row := numOrderUptoRow, standIns := [], harness := (true, "cd9132b06b81958c351163fa0af5ea2541322394f212a6c750d31ab7361a06a2"), looks := true }, kinds := [], alts := [], laidByText := true, laidKinds := [.data, .data, .data, .sentinel, .sentinel], laidTests := true, laidLooks := .later }
def NumOrderUptoCardSaid : Prop := Claim7.holds Tryd.pinned (.plain (OpenSpec.upto numOrderSpec)) numOrderUptoCard

/-- THE SECOND FORM's CARD OF 'reredoslaw01.NumBack'. -/
def numBackUptoCard : Claim7 := { stood := { row := numBackUptoRow, standIns := [], harness := (true, "cd9132b06b81958c351163fa0af5ea2541322394f212a6c750d31ab7361a06a2"), looks := true }, kinds := [], alts := [], laidByText := true, laidKinds := [.data, .data, .data, .sentinel, .sentinel], laidTests := true, laidLooks := .later }
def NumBackUptoCardSaid : Prop := Claim7.holds Tryd.pinned (.plain (OpenSpec.upto numBackSpec)) numBackUptoCard
end Rows
end Go.Proofs.YtdbheoffkfmcpaaDoor
