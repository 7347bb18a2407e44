/-
  DERIVED. GIVEN WITH THE SEED: THE CARDS: each row of YtkhgpnbhnipndaaGreatDoorRows.lean that lists a variable, with what it lists TIED to the program's text (the seventh form; the later family's looks); each row that meets fmt, with fmt's text TOLD by the authors' own Lean function (tested against real Go, not proved from fmt's source: count such statements apart). THE CARD IS WHAT COUNTS. Prove the row's statement (the work); the ties are given (YtkhgpnbhnipndaaGreatDoorTie.lean); close each card by the builder's one call (the guide's Derived/Test/ToyasCard.lean, 'card_holds'). Laid BY PROGRAM, IN A SANDBOX (cutbox-door.mjs). By AI agents, Wed Nov 11 2026. No macro, syntax, notation, axiom, sorry.
-/
import Derived.Test.YtkhgpnbhnipndaaGreatDoorRows
import GoSem.ClaimSeven
namespace Go.Proofs.YtkhgpnbhnipndaaGreatDoor
namespace Rows

/-- THE TIED CARD OF 'reredoslaw20.FrameSteps'. -/
def frameStepsCard : Claim7 := { stood := { row := frameStepsRow, standIns := [], harness := (true, "81a87fe8b9cd01ef46e512a880623050cc1b79b7b3ed1b82e8fb90f8a95e398a"), looks := true }, kinds := [], alts := [], laidByText := true, laidKinds := [.data, .data, .data, .sentinel, .sentinel], laidTests := true, laidLooks := .later }
def FrameStepsCardSaid : Prop := Claim7.holds Tryz.pinned (.plain (OpenSpec.ofChange frameStepsSpec)) frameStepsCard

/-- THE TIED CARD OF 'reredoslaw20.FrameRuns'. -/
def frameRunsCard : Claim7 := { stood := { row := frameRunsRow, standIns := [], harness := (true, "81a87fe8b9cd01ef46e512a880623050cc1b79b7b3ed1b82e8fb90f8a95e398a"), looks := true }, kinds := [], alts := [], laidByText := true, laidKinds := [.data, .data, .data, .sentinel, .sentinel], laidTests := true, laidLooks := .later }
def FrameRunsCardSaid : Prop := Claim7.holds Tryz.pinned (.plain (OpenSpec.ofChange frameRunsSpec)) frameRunsCard

/-- THE TIED CARD OF 'reredoslaw22.LoopRuns'. -/
def loopRunsCard : Claim7 := { stood := { row := loopRunsRow, standIns := [], harness := (true, "81a87fe8b9cd01ef46e512a880623050cc1b79b7b3ed1b82e8fb90f8a95e398a"), looks := true }, kinds := [], alts := [], laidByText := true, laidKinds := [.data, .data, .data, .sentinel, .sentinel], laidTests := true, laidLooks := .later }
def LoopRunsCardSaid : Prop := Claim7.holds Tryz.pinned (.plain (OpenSpec.ofChange loopRunsSpec)) loopRunsCard

/-- THE TIED CARD OF 'reredoslaw22.LoopDeopt'. -/
def loopDeoptCard : Claim7 := { stood := { row := loopDeoptRow, standIns := [], harness := (true, "81a87fe8b9cd01ef46e512a880623050cc1b79b7b3ed1b82e8fb90f8a95e398a"), looks := true }, kinds := [], alts := [], laidByText := true, laidKinds := [.data, .data, .data, .sentinel, .sentinel], laidTests := true, laidLooks := .later }
def LoopDeoptCardSaid : Prop := Claim7.holds Tryz.pinned (.plain (OpenSpec.ofChange loopDeoptSpec)) loopDeoptCard

/-- THE TIED CARD OF 'reredoslaw22.LoopPacks'. -/
def loopPacksCard : Claim7 := { stood := { row := loopPacksRow, standIns := [], harness := (true, "81a87fe8b9cd01ef46e512a880623050cc1b79b7b3ed1b82e8fb90f8a95e398a"), looks := true }, kinds := [], alts := [], laidByText := true, laidKinds := [.data, .data, .data, .sentinel, .sentinel], laidTests := true, laidLooks := .later }
def LoopPacksCardSaid : Prop := Claim7.holds Tryz.pinned (.plain (OpenSpec.ofChange loopPacksSpec)) loopPacksCard

/-- THE TIED CARD OF 'reredoslaw22.LoopWide'. -/
def loopWideCard : Claim7 := { stood := { row := loopWideRow, standIns := [], harness := (true, "81a87fe8b9cd01ef46e512a880623050cc1b79b7b3ed1b82e8fb90f8a95e398a"), looks := true }, kinds := [], alts := [], laidByText := true, laidKinds := [.data, .data, .data, .sentinel, .sentinel], laidTests := true, laidLooks := .later }
def LoopWideCardSaid : Prop := Claim7.holds Tryz.pinned (.plain (OpenSpec.ofChange loopWideSpec)) loopWideCard

/-- THE TIED CARD OF 'reredoslaw22.LoopAll'. -/
def loopAllCard : Claim7 := { stood := { row := loopAllRow, standIns := [], harness := (true, "81a87fe8b9cd01ef46e512a880623050cc1b79b7b3ed1b82e8fb90f8a95e398a"), looks := true }, kinds := [], alts := [], laidByText := true, laidKinds := [.data, .data, .data, .sentinel, .sentinel], laidTests := true, laidLooks := .later }
def LoopAllCardSaid : Prop := Claim7.holds Tryz.pinned (.plain (OpenSpec.ofChange loopAllSpec)) loopAllCard

/-- THE TIED CARD OF 'reredoslaw22.LoopWider'. -/
def loopWiderCard : Claim7 := { stood := { row := loopWiderRow, standIns := [], harness := (true, "81a87fe8b9cd01ef46e512a880623050cc1b79b7b3ed1b82e8fb90f8a95e398a"), looks := true }, kinds := [], alts := [], laidByText := true, laidKinds := [.data, .data, .data, .sentinel, .sentinel], laidTests := true, laidLooks := .later }
def LoopWiderCardSaid : Prop := Claim7.holds Tryz.pinned (.plain (OpenSpec.ofChange loopWiderSpec)) loopWiderCard

/-- THE SECOND FORM's CARD OF 'reredoslaw20.FrameSteps'. -/
def frameStepsUptoCard : Claim7 := { stood := { row := frameStepsUptoRow, standIns := [], harness := (true, "81a87fe8b9cd01ef46e512a880623050cc1b79b7b3ed1b82e8fb90f8a95e398a"), looks := true }, kinds := [], alts := [], laidByText := true, laidKinds := [.data, .data, .data, .sentinel, .sentinel], laidTests := true, laidLooks := .later }
def FrameStepsUptoCardSaid : Prop := Claim7.holds Tryz.pinned (.plain (OpenSpec.upto frameStepsSpec)) frameStepsUptoCard

/-- THE SECOND FORM's CARD OF 'reredoslaw20.FrameRuns'. -/
def frameRunsUptoCard : Claim7 := { stood := { row := frameRunsUptoRow, standIns := [], harness := (true, "81a87fe8b9cd01ef46e512a880623050cc1b79b7b3ed1b82e8fb90f8a95e398a"), looks := true }, kinds := [], alts := [], laidByText := true, laidKinds := [.data, .data, .data, .sentinel, .sentinel], laidTests := true, laidLooks := .later }
def FrameRunsUptoCardSaid : Prop := Claim7.holds Tryz.pinned (.plain (OpenSpec.upto frameRunsSpec)) frameRunsUptoCard

/-- THE SECOND FORM's CARD OF 'reredoslaw22.LoopRuns'. -/
def loopRunsUptoCard : Claim7 := { stood := { row := loopRunsUptoRow, standIns := [], harness := (true, "81a87fe8b9cd01ef46e512a880623050cc1b79b7b3ed1b82e8fb90f8a95e398a"), looks := true }, kinds := [], alts := [], laidByText := true, laidKinds := [.data, .data, .data, .sentinel, .sentinel], laidTests := true, laidLooks := .later }
def LoopRunsUptoCardSaid : Prop := Claim7.holds Tryz.pinned (.plain (OpenSpec.upto loopRunsSpec)) loopRunsUptoCard

/-- THE SECOND FORM's CARD OF 'reredoslaw22.LoopDeopt'. -/
def loopDeoptUptoCard : Claim7 := { stood := { row := loopDeoptUptoRow, standIns := [], harness := (true, "81a87fe8b9cd01ef46e512a880623050cc1b79b7b3ed1b82e8fb90f8a95e398a"), looks := true }, kinds := [], alts := [], laidByText := true, laidKinds := [.data, .data, .data, .sentinel, .sentinel], laidTests := true, laidLooks := .later }
def LoopDeoptUptoCardSaid : Prop := Claim7.holds Tryz.pinned (.plain (OpenSpec.upto loopDeoptSpec)) loopDeoptUptoCard

/-- THE SECOND FORM's CARD OF 'reredoslaw22.LoopPacks'. -/
def loopPacksUptoCard : Claim7 := { stood := { row := loopPacksUptoRow, standIns := [], harness := (true, "81a87fe8b9cd01ef46e512a880623050cc1b79b7b3ed1b82e8fb90f8a95e398a"), looks := true }, kinds := [], alts := [], laidByText := true, laidKinds := [.data, .data, .data, .sentinel, .sentinel], laidTests := true, laidLooks := .later }
def LoopPacksUptoCardSaid : Prop := Claim7.holds Tryz.pinned (.plain (OpenSpec.upto loopPacksSpec)) loopPacksUptoCard

/-- THE SECOND FORM's CARD OF 'reredoslaw22.LoopWide'. -/
def loopWideUptoCard : Claim7 := { stood := { row := loopWideUptoRow, standIns := [], harness := (true, "81a87fe8b9cd01ef46e512a880623050cc1b79b7b3ed1b82e8fb90f8a95e398a"), looks := true }, kinds := [], alts := [], laidByText := true, laidKinds := [.data, .data, .data, .sentinel, .sentinel], laidTests := true, laidLooks := .later }
def LoopWideUptoCardSaid : Prop := Claim7.holds Tryz.pinned (.plain (OpenSpec.upto loopWideSpec)) loopWideUptoCard

/-- THE SECOND FORM's CARD OF 'reredoslaw22.LoopAll'. -/
def loopAllUptoCard : Claim7 := { stood := { row := loopAllUptoRow, standIns := [], harness := (true, "81a87fe8b9cd01ef46e512a880623050cc1b79b7b3ed1b82e8fb90f8a95e398a"), looks := true }, kinds := [], alts := [], laidByText := true, laidKinds := [.data, .data, .data, .sentinel, .sentinel], laidTests := true, laidLooks := .later }
def LoopAllUptoCardSaid : Prop := Claim7.holds Tryz.pinned (.plain (OpenSpec.upto loopAllSpec)) loopAllUptoCard

/-- THE SECOND FORM's CARD OF 'reredoslaw22.LoopWider'. -/
def loopWiderUptoCard : Claim7 := { stood := { row := loopWiderUptoRow, standIns := [], harness := (true, "81a87fe8b9cd01ef46e512a880623050cc1b79b7b3ed1b82e8fb90f8a95e398a"), looks := true }, kinds := [], alts := [], laidByText := true, laidKinds := [.data, .data, .data, .sentinel, .sentinel], laidTests := true, laidLooks := .later }
def LoopWiderUptoCardSaid : Prop := Claim7.holds Tryz.pinned (.plain (OpenSpec.upto loopWiderSpec)) loopWiderUptoCard
end Rows
end Go.Proofs.YtkhgpnbhnipndaaGreatDoor
