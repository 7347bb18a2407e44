/-
  DERIVED. GIVEN WITH THE SEED: THE CARDS: each row of YtjldjhlccedkbaaGreatDoorRows.lean that lists a variable, with what it lists TIED to the program's text (the seventh form; the later family's looks); each row that meets fmt, with fmt's text TOLD by the authors' own Lean function (tested against real Go, not proved from fmt's source: count such statements apart). THE CARD IS WHAT COUNTS. Prove the row's statement (the work); the ties are given (YtjldjhlccedkbaaGreatDoorTie.lean); close each card by the builder's one call (the guide's Derived/Test/ToyasCard.lean, 'card_holds'). Laid BY PROGRAM, IN A SANDBOX (cutbox-door.mjs). By AI agents, Wed Nov 11 2026. No macro, syntax, notation, axiom, sorry.
-/
import Derived.Test.YtjldjhlccedkbaaGreatDoorRows
import GoSem.ClaimSeven
namespace Go.Proofs.YtjldjhlccedkbaaGreatDoor
namespace Rows

/-- THE TIED CARD OF 'reredoslaw13.SpreadSelf'. -/
def spreadSelfCard : Claim7 := { stood := { row := spreadSelfRow, standIns := [], harness := (true, "0c93eb4b0f82e8b1b2cf024ec2af446626c51a5ad4b018cc872787613fcedfd8"), looks := true }, kinds := [], alts := [], laidByText := true, laidKinds := [.data, .data, .data, .sentinel, .sentinel], laidTests := true, laidLooks := .later }
def SpreadSelfCardSaid : Prop := Claim7.holds Tryz.pinned (.plain (OpenSpec.ofChange spreadSelfSpec)) spreadSelfCard

/-- THE TIED CARD OF 'reredoslaw13.SpreadItems'. -/
def spreadItemsCard : Claim7 := { stood := { row := spreadItemsRow, standIns := [], harness := (true, "0c93eb4b0f82e8b1b2cf024ec2af446626c51a5ad4b018cc872787613fcedfd8"), looks := true }, kinds := [], alts := [], laidByText := true, laidKinds := [.data, .data, .data, .sentinel, .sentinel], laidTests := true, laidLooks := .later }
def SpreadItemsCardSaid : Prop := Claim7.holds Tryz.pinned (.plain (OpenSpec.ofChange spreadItemsSpec)) spreadItemsCard

/-- THE TIED CARD OF 'reredoslaw13.SpreadTells'. -/
def spreadTellsCard : Claim7 := { stood := { row := spreadTellsRow, standIns := [], harness := (true, "0c93eb4b0f82e8b1b2cf024ec2af446626c51a5ad4b018cc872787613fcedfd8"), looks := true }, kinds := [], alts := [], laidByText := true, laidKinds := [.data, .data, .data, .sentinel, .sentinel], laidTests := true, laidLooks := .later }
def SpreadTellsCardSaid : Prop := Claim7.holds Tryz.pinned (.plain (OpenSpec.ofChange spreadTellsSpec)) spreadTellsCard

/-- THE TIED CARD OF 'reredoslaw13.SpreadOrder'. -/
def spreadOrderCard : Claim7 := { stood := { row := spreadOrderRow, standIns := [], harness := (true, "0c93eb4b0f82e8b1b2cf024ec2af446626c51a5ad4b018cc872787613fcedfd8"), looks := true }, kinds := [], alts := [], laidByText := true, laidKinds := [.data, .data, .data, .sentinel, .sentinel], laidTests := true, laidLooks := .later }
def SpreadOrderCardSaid : Prop := Claim7.holds Tryz.pinned (.plain (OpenSpec.ofChange spreadOrderSpec)) spreadOrderCard

/-- THE TIED CARD OF 'reredoslaw13.SpreadTwice'. -/
def spreadTwiceCard : Claim7 := { stood := { row := spreadTwiceRow, standIns := [], harness := (true, "0c93eb4b0f82e8b1b2cf024ec2af446626c51a5ad4b018cc872787613fcedfd8"), looks := true }, kinds := [], alts := [], laidByText := true, laidKinds := [.data, .data, .data, .sentinel, .sentinel], laidTests := true, laidLooks := .later }
def SpreadTwiceCardSaid : Prop := Claim7.holds Tryz.pinned (.plain (OpenSpec.ofChange spreadTwiceSpec)) spreadTwiceCard

/-- THE TIED CARD OF 'reredoslaw20.FramePrefix'. -/
def framePrefixCard : Claim7 := { stood := { row := framePrefixRow, standIns := [], harness := (true, "0c93eb4b0f82e8b1b2cf024ec2af446626c51a5ad4b018cc872787613fcedfd8"), looks := true }, kinds := [], alts := [], laidByText := true, laidKinds := [.data, .data, .data, .sentinel, .sentinel], laidTests := true, laidLooks := .later }
def FramePrefixCardSaid : Prop := Claim7.holds Tryz.pinned (.plain (OpenSpec.ofChange framePrefixSpec)) framePrefixCard

/-- THE TIED CARD OF 'reredoslaw20.FrameFold'. -/
def frameFoldCard : Claim7 := { stood := { row := frameFoldRow, standIns := [], harness := (true, "0c93eb4b0f82e8b1b2cf024ec2af446626c51a5ad4b018cc872787613fcedfd8"), looks := true }, kinds := [], alts := [], laidByText := true, laidKinds := [.data, .data, .data, .sentinel, .sentinel], laidTests := true, laidLooks := .later }
def FrameFoldCardSaid : Prop := Claim7.holds Tryz.pinned (.plain (OpenSpec.ofChange frameFoldSpec)) frameFoldCard

/-- THE TIED CARD OF 'reredoslaw20.FrameSteps'. -/
def frameStepsCard : Claim7 := { stood := { row := frameStepsRow, standIns := [], harness := (true, "0c93eb4b0f82e8b1b2cf024ec2af446626c51a5ad4b018cc872787613fcedfd8"), looks := true }, kinds := [], alts := [], laidByText := true, laidKinds := [.data, .data, .data, .sentinel, .sentinel], laidTests := true, laidLooks := .later }
def FrameStepsCardSaid : Prop := Claim7.holds Tryz.pinned (.plain (OpenSpec.ofChange frameStepsSpec)) frameStepsCard

/-- THE TIED CARD OF 'reredoslaw20.FrameRuns'. -/
def frameRunsCard : Claim7 := { stood := { row := frameRunsRow, standIns := [], harness := (true, "0c93eb4b0f82e8b1b2cf024ec2af446626c51a5ad4b018cc872787613fcedfd8"), looks := true }, kinds := [], alts := [], laidByText := true, laidKinds := [.data, .data, .data, .sentinel, .sentinel], laidTests := true, laidLooks := .later }
def FrameRunsCardSaid : Prop := Claim7.holds Tryz.pinned (.plain (OpenSpec.ofChange frameRunsSpec)) frameRunsCard

/-- THE TIED CARD OF 'reredoslaw20.FrameGrows'. -/
def frameGrowsCard : Claim7 := { stood := { row := frameGrowsRow, standIns := [], harness := (true, "0c93eb4b0f82e8b1b2cf024ec2af446626c51a5ad4b018cc872787613fcedfd8"), looks := true }, kinds := [], alts := [], laidByText := true, laidKinds := [.data, .data, .data, .sentinel, .sentinel], laidTests := true, laidLooks := .later }
def FrameGrowsCardSaid : Prop := Claim7.holds Tryz.pinned (.plain (OpenSpec.ofChange frameGrowsSpec)) frameGrowsCard

/-- THE SECOND FORM's CARD OF 'reredoslaw13.SpreadSelf'. -/
def spreadSelfUptoCard : Claim7 := { stood := { row := spreadSelfUptoRow, standIns := [], harness := (true, "0c93eb4b0f82e8b1b2cf024ec2af446626c51a5ad4b018cc872787613fcedfd8"), looks := true }, kinds := [], alts := [], laidByText := true, laidKinds := [.data, .data, .data, .sentinel, .sentinel], laidTests := true, laidLooks := .later }
def SpreadSelfUptoCardSaid : Prop := Claim7.holds Tryz.pinned (.plain (OpenSpec.upto spreadSelfSpec)) spreadSelfUptoCard

/-- THE SECOND FORM's CARD OF 'reredoslaw13.SpreadItems'. -/
def spreadItemsUptoCard : Claim7 := { stood := { row := spreadItemsUptoRow, standIns := [], harness := (true, "0c93eb4b0f82e8b1b2cf024ec2af446626c51a5ad4b018cc872787613fcedfd8"), looks := true }, kinds := [], alts := [], laidByText := true, laidKinds := [.data, .data, .data, .sentinel, .sentinel], laidTests := true, laidLooks := .later }
def SpreadItemsUptoCardSaid : Prop := Claim7.holds Tryz.pinned (.plain (OpenSpec.upto spreadItemsSpec)) spreadItemsUptoCard

/-- THE SECOND FORM's CARD OF 'reredoslaw13.SpreadTells'. -/
def spreadTellsUptoCard : Claim7 := { stood := { row := spreadTellsUptoRow, standIns := [], harness := (true, "0c93eb4b0f82e8b1b2cf024ec2af446626c51a5ad4b018cc872787613fcedfd8"), looks := true }, kinds := [], alts := [], laidByText := true, laidKinds := [.data, .data, .data, .sentinel, .sentinel], laidTests := true, laidLooks := .later }
def SpreadTellsUptoCardSaid : Prop := Claim7.holds Tryz.pinned (.plain (OpenSpec.upto spreadTellsSpec)) spreadTellsUptoCard

/-- THE SECOND FORM's CARD OF 'reredoslaw13.SpreadOrder'. -/
def spreadOrderUptoCard : Claim7 := { stood := { row := spreadOrderUptoRow, standIns := [], harness := (true, "0c93eb4b0f82e8b1b2cf024ec2af446626c51a5ad4b018cc872787613fcedfd8"), looks := true }, kinds := [], alts := [], laidByText := true, laidKinds := [.data, .data, .data, .sentinel, .sentinel], laidTests := true, laidLooks := .later }
def SpreadOrderUptoCardSaid : Prop := Claim7.holds Tryz.pinned (.plain (OpenSpec.upto spreadOrderSpec)) spreadOrderUptoCard

/-- THE SECOND FORM's CARD OF 'reredoslaw13.SpreadTwice'. -/
def spreadTwiceUptoCard : Claim7 := { stood := { row := spreadTwiceUptoRow, standIns := [], harness := (true, "0c93eb4b0f82e8b1b2cf024ec2af446626c51a5ad4b018cc872787613fcedfd8"), looks := true }, kinds := [], alts := [], laidByText := true, laidKinds := [.data, .data, .data, .sentinel, .sentinel], laidTests := true, laidLooks := .later }
def SpreadTwiceUptoCardSaid : Prop := Claim7.holds Tryz.pinned (.plain (OpenSpec.upto spreadTwiceSpec)) spreadTwiceUptoCard

/-- THE SECOND FORM's CARD OF 'reredoslaw20.FramePrefix'. -/
def framePrefixUptoCard : Claim7 := { stood := { row := framePrefixUptoRow, standIns := [], harness := (true, "0c93eb4b0f82e8b1b2cf024ec2af446626c51a5ad4b018cc872787613fcedfd8"), looks := true }, kinds := [], alts := [], laidByText := true, laidKinds := [.data, .data, .data, .sentinel, .sentinel], laidTests := true, laidLooks := .later }
def FramePrefixUptoCardSaid : Prop := Claim7.holds Tryz.pinned (.plain (OpenSpec.upto framePrefixSpec)) framePrefixUptoCard

/-- THE SECOND FORM's CARD OF 'reredoslaw20.FrameFold'. -/
def frameFoldUptoCard : Claim7 := { stood := { row := frameFoldUptoRow, standIns := [], harness := (true, "0c93eb4b0f82e8b1b2cf024ec2af446626c51a5ad4b018cc872787613fcedfd8"), looks := true }, kinds := [], alts := [], laidByText := true, laidKinds := [.data, .data, .data, .sentinel, .sentinel], laidTests := true, laidLooks := .later }
def FrameFoldUptoCardSaid : Prop := Claim7.holds Tryz.pinned (.plain (OpenSpec.upto frameFoldSpec)) frameFoldUptoCard

/-- THE SECOND FORM's CARD OF 'reredoslaw20.FrameSteps'. -/
def frameStepsUptoCard : Claim7 := { stood := { row := frameStepsUptoRow, standIns := [], harness := (true, "0c93eb4b0f82e8b1b2cf024ec2af446626c51a5ad4b018cc872787613fcedfd8"), looks := true }, kinds := [], alts := [], laidByText := true, laidKinds := [.data, .data, .data, .sentinel, .sentinel], laidTests := true, laidLooks := .later }
def FrameStepsUptoCardSaid : Prop := Claim7.holds Tryz.pinned (.plain (OpenSpec.upto frameStepsSpec)) frameStepsUptoCard

/-- THE SECOND FORM's CARD OF 'reredoslaw20.FrameRuns'. -/
def frameRunsUptoCard : Claim7 := { stood := { row := frameRunsUptoRow, standIns := [], harness := (true, "0c93eb4b0f82e8b1b2cf024ec2af446626c51a5ad4b018cc872787613fcedfd8"), looks := true }, kinds := [], alts := [], laidByText := true, laidKinds := [.data, .data, .data, .sentinel, .sentinel], laidTests := true, laidLooks := .later }
def FrameRunsUptoCardSaid : Prop := Claim7.holds Tryz.pinned (.plain (OpenSpec.upto frameRunsSpec)) frameRunsUptoCard

/-- THE SECOND FORM's CARD OF 'reredoslaw20.FrameGrows'. -/
def frameGrowsUptoCard : Claim7 := { stood := { row := frameGrowsUptoRow, standIns := [], harness := (true, "0c93eb4b0f82e8b1b2cf024ec2af446626c51a5ad4b018cc872787613fcedfd8"), looks := true }, kinds := [], alts := [], laidByText := true, laidKinds := [.data, .data, .data, .sentinel, .sentinel], laidTests := true, laidLooks := .later }
def FrameGrowsUptoCardSaid : Prop := Claim7.holds Tryz.pinned (.plain (OpenSpec.upto frameGrowsSpec)) frameGrowsUptoCard
end Rows
end Go.Proofs.YtjldjhlccedkbaaGreatDoor
