/-
  DERIVED. GIVEN WITH THE SEED: THE CARDS: each row of YtdbheoffkfmcpaaGreatDoorRows.lean that lists a variable, with what it lists TIED to the program's text (the seventh form; the later family's looks); each row that meets fmt, with fmt's text TOLD by the authors' own Lean function (tested against real Go, not proved from fmt's source: count such statements apart). THE CARD IS WHAT COUNTS. Prove the row's statement (the work); the ties are given (YtdbheoffkfmcpaaGreatDoorTie.lean); close each card by the builder's one call (the guide's Derived/Test/ToyasCard.lean, 'card_holds'). Laid BY PROGRAM, IN A SANDBOX (cutbox-door.mjs). By AI agents, Wed Nov 11 2026. No macro, syntax, notation, axiom, sorry.
-/
import Derived.Test.YtdbheoffkfmcpaaGreatDoorRows
import GoSem.ClaimSeven
namespace Go.Proofs.YtdbheoffkfmcpaaGreatDoor
namespace Rows

/-- THE TIED CARD OF 'reredoslaw01.NumDivides'. -/
def numDividesCard : Claim7 := { stood := { row := numDividesRow, standIns := [], harness := (true, "ae171bc7b600a3778bbdd716c933cfb7efb03f9f629afe6c8a419dab366c668f"), looks := true }, kinds := [], alts := [], laidByText := true, laidKinds := [.data, .data, .data, .sentinel, .sentinel], laidTests := true, laidLooks := .later }
def NumDividesCardSaid : Prop := Claim7.holds Tryz.pinned (.plain (OpenSpec.ofChange numDividesSpec)) numDividesCard

/-- THE TIED CARD OF 'reredoslaw01.NumAdds'. -/
def numAddsCard : Claim7 := { stood := { row := numAddsRow, standIns := [], harness := (true, "ae171bc7b600a3778bbdd716c933cfb7efb03f9f629afe6c8a419dab366c668f"), looks := true }, kinds := [], alts := [], laidByText := true, laidKinds := [.data, .data, .data, .sentinel, .sentinel], laidTests := true, laidLooks := .later }
def NumAddsCardSaid : Prop := Claim7.holds Tryz.pinned (.plain (OpenSpec.ofChange numAddsSpec)) numAddsCard

/-- THE TIED CARD OF 'reredoslaw01.NumTells'. -/
def numTellsCard : Claim7 := { stood := { row := numTellsRow, standIns := [], harness := (true, "ae171bc7b600a3778bbdd716c933cfb7efb03f9f629afe6c8a419dab366c668f"), looks := true }, kinds := [], alts := [], laidByText := true, laidKinds := [.data, .data, .data, .sentinel, .sentinel], laidTests := true, laidLooks := .later }
def NumTellsCardSaid : Prop := Claim7.holds Tryz.pinned (.plain (OpenSpec.ofChange numTellsSpec)) numTellsCard

/-- THE SECOND FORM's CARD OF 'reredoslaw01.NumDivides'. -/
def numDividesUptoCard : Claim7 := { stood := { row := numDividesUptoRow, standIns := [], harness := (true, "ae171bc7b600a3778bbdd716c933cfb7efb03f9f629afe6c8a419dab366c668f"), looks := true }, kinds := [], alts := [], laidByText := true, laidKinds := [.data, .data, .data, .sentinel, .sentinel], laidTests := true, laidLooks := .later }
def NumDividesUptoCardSaid : Prop := Claim7.holds Tryz.pinned (.plain (OpenSpec.upto numDividesSpec)) numDividesUptoCard

/-- THE SECOND FORM's CARD OF 'reredoslaw01.NumAdds'. -/
def numAddsUptoCard : Claim7 := { stood := { row := numAddsUptoRow, standIns := [], harness := (true, "ae171bc7b600a3778bbdd716c933cfb7efb03f9f629afe6c8a419dab366c668f"), looks := true }, kinds := [], alts := [], laidByText := true, laidKinds := [.data, .data, .data, .sentinel, .sentinel], laidTests := true, laidLooks := .later }
def NumAddsUptoCardSaid : Prop := Claim7.holds Tryz.pinned (.plain (OpenSpec.upto numAddsSpec)) numAddsUptoCard

/-- THE SECOND FORM's CARD OF 'reredoslaw01.NumTells'. -/
def numTellsUptoCard : Claim7 := { stood := { row := numTellsUptoRow, standIns := [], harness := (true, "ae171bc7b600a3778bbdd716c933cfb7efb03f9f629afe6c8a419dab366c668f"), looks := true }, kinds := [], alts := [], laidByText := true, laidKinds := [.data, .data, .data, .sentinel, .sentinel], laidTests := true, laidLooks := .later }
def NumTellsUptoCardSaid : Prop := Claim7.holds Tryz.pinned (.plain (OpenSpec.upto numTellsSpec)) numTellsUptoCard
end Rows
end Go.Proofs.YtdbheoffkfmcpaaGreatDoor
