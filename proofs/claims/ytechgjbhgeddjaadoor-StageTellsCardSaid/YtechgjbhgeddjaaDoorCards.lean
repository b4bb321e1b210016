/-
  DERIVED. GIVEN WITH THE SEED: THE CARDS: each row of YtechgjbhgeddjaaDoorRows.lean that lists a variable, with what it lists TIED to the program's text (the seventh form; the later family's looks); each row that meets fmt, with fmt's text TOLD by the authors' own Lean function (tested against real Go, not proved from fmt's source: count such statements apart). THE CARD IS WHAT COUNTS. Prove the row's statement (the work); the ties are given (YtechgjbhgeddjaaDoorTie.lean); close each card by the builder's one call (the guide's Derived/Test/ToyasCard.lean, 'card_holds'). Laid BY PROGRAM, IN A SANDBOX (cutbox-door.mjs). By AI agents, Wed Nov 11 2026. No macro, syntax, notation, axiom, sorry.
-/
import Derived.Test.YtechgjbhgeddjaaDoorRows
import GoSem.ClaimSeven
namespace Go.Proofs.YtechgjbhgeddjaaDoor
namespace Rows

/-- THE TIED CARD OF 'pelicanlaw16.StageTells'. -/
def stageTellsCard : Claim7 := { stood := { row := stageTellsRow, standIns := [], harness := (true, "92c6f25355cd12ce7d1eb4560726e6aa06def0b89ab8c1965beab0e00d93dcd0"), looks := false }, kinds := [], alts := [], laidByText := true, laidKinds := [.data, .data], laidTests := true, laidLooks := .later }
def StageTellsCardSaid : Prop := Claim7.holds Tryd.pinned (.plain (OpenSpec.ofChange stageTellsSpec)) stageTellsCard

/-- THE TIED CARD OF 'pelicanlaw16.StageGreen'. -/
def stageGreenCard : Claim7 := { stood := { row := stageGreenRow, standIns := [], harness := (true, "92c6f25355cd12ce7d1eb4560726e6aa06def0b89ab8c1965beab0e00d93dcd0"), looks := false }, kinds := [], alts := [], laidByText := true, laidKinds := [.data, .data], laidTests := true, laidLooks := .later }
def StageGreenCardSaid : Prop := Claim7.holds Tryd.pinned (.plain (OpenSpec.ofChange stageGreenSpec)) stageGreenCard

/-- THE TIED CARD OF 'pelicanlaw16.StageBetween'. -/
def stageBetweenCard : Claim7 := { stood := { row := stageBetweenRow, standIns := [], harness := (true, "92c6f25355cd12ce7d1eb4560726e6aa06def0b89ab8c1965beab0e00d93dcd0"), looks := false }, kinds := [], alts := [], laidByText := true, laidKinds := [.data, .data], laidTests := true, laidLooks := .later }
def StageBetweenCardSaid : Prop := Claim7.holds Tryd.pinned (.plain (OpenSpec.ofChange stageBetweenSpec)) stageBetweenCard

/-- THE TIED CARD OF 'pelicanlaw16.StageStops'. -/
def stageStopsCard : Claim7 := { stood := { row := stageStopsRow, standIns := [], harness := (true, "92c6f25355cd12ce7d1eb4560726e6aa06def0b89ab8c1965beab0e00d93dcd0"), looks := false }, kinds := [], alts := [], laidByText := true, laidKinds := [.data, .data], laidTests := true, laidLooks := .later }
def StageStopsCardSaid : Prop := Claim7.holds Tryd.pinned (.plain (OpenSpec.ofChange stageStopsSpec)) stageStopsCard

/-- THE TIED CARD OF 'pelicanlaw16.StageRun'. -/
def stageRunCard : Claim7 := { stood := { row := stageRunRow, standIns := [], harness := (true, "92c6f25355cd12ce7d1eb4560726e6aa06def0b89ab8c1965beab0e00d93dcd0"), looks := false }, kinds := [], alts := [], laidByText := true, laidKinds := [.data, .data], laidTests := true, laidLooks := .later }
def StageRunCardSaid : Prop := Claim7.holds Tryd.pinned (.plain (OpenSpec.ofChange stageRunSpec)) stageRunCard

/-- THE TIED CARD OF 'pelicanlaw16.StageStays'. -/
def stageStaysCard : Claim7 := { stood := { row := stageStaysRow, standIns := [], harness := (true, "92c6f25355cd12ce7d1eb4560726e6aa06def0b89ab8c1965beab0e00d93dcd0"), looks := false }, kinds := [], alts := [], laidByText := true, laidKinds := [.data, .data], laidTests := true, laidLooks := .later }
def StageStaysCardSaid : Prop := Claim7.holds Tryd.pinned (.plain (OpenSpec.ofChange stageStaysSpec)) stageStaysCard

/-- THE TIED CARD OF 'pelicanlaw15.LampTells'. -/
def lampTellsCard : Claim7 := { stood := { row := lampTellsRow, standIns := [], harness := (true, "92c6f25355cd12ce7d1eb4560726e6aa06def0b89ab8c1965beab0e00d93dcd0"), looks := false }, kinds := [], alts := [], laidByText := true, laidKinds := [.data, .data], laidTests := true, laidLooks := .later }
def LampTellsCardSaid : Prop := Claim7.holds Tryd.pinned (.plain (OpenSpec.ofChange lampTellsSpec)) lampTellsCard

/-- THE TIED CARD OF 'pelicanlaw15.LampBack'. -/
def lampBackCard : Claim7 := { stood := { row := lampBackRow, standIns := [], harness := (true, "92c6f25355cd12ce7d1eb4560726e6aa06def0b89ab8c1965beab0e00d93dcd0"), looks := false }, kinds := [], alts := [], laidByText := true, laidKinds := [.data, .data], laidTests := true, laidLooks := .later }
def LampBackCardSaid : Prop := Claim7.holds Tryd.pinned (.plain (OpenSpec.ofChange lampBackSpec)) lampBackCard

/-- THE TIED CARD OF 'pelicanlaw15.LampFree'. -/
def lampFreeCard : Claim7 := { stood := { row := lampFreeRow, standIns := [], harness := (true, "92c6f25355cd12ce7d1eb4560726e6aa06def0b89ab8c1965beab0e00d93dcd0"), looks := false }, kinds := [], alts := [], laidByText := true, laidKinds := [.data, .data], laidTests := true, laidLooks := .later }
def LampFreeCardSaid : Prop := Claim7.holds Tryd.pinned (.plain (OpenSpec.ofChange lampFreeSpec)) lampFreeCard

/-- THE TIED CARD OF 'pelicanlaw15.LampShow'. -/
def lampShowCard : Claim7 := { stood := { row := lampShowRow, standIns := [], harness := (true, "92c6f25355cd12ce7d1eb4560726e6aa06def0b89ab8c1965beab0e00d93dcd0"), looks := false }, kinds := [], alts := [], laidByText := true, laidKinds := [.data, .data], laidTests := true, laidLooks := .later }
def LampShowCardSaid : Prop := Claim7.holds Tryd.pinned (.plain (OpenSpec.ofChange lampShowSpec)) lampShowCard

/-- THE TIED CARD OF 'pelicanlaw15.LampClash'. -/
def lampClashCard : Claim7 := { stood := { row := lampClashRow, standIns := [], harness := (true, "92c6f25355cd12ce7d1eb4560726e6aa06def0b89ab8c1965beab0e00d93dcd0"), looks := false }, kinds := [], alts := [], laidByText := true, laidKinds := [.data, .data], laidTests := true, laidLooks := .later }
def LampClashCardSaid : Prop := Claim7.holds Tryd.pinned (.plain (OpenSpec.ofChange lampClashSpec)) lampClashCard

/-- THE SECOND FORM's CARD OF 'pelicanlaw16.StageTells'. -/
def stageTellsUptoCard : Claim7 := { stood := { row := stageTellsUptoRow, standIns := [], harness := (true, "92c6f25355cd12ce7d1eb4560726e6aa06def0b89ab8c1965beab0e00d93dcd0"), looks := false }, kinds := [], alts := [], laidByText := true, laidKinds := [.data, .data], laidTests := true, laidLooks := .later }
def StageTellsUptoCardSaid : Prop := Claim7.holds Tryd.pinned (.plain (OpenSpec.upto stageTellsSpec)) stageTellsUptoCard

/-- THE SECOND FORM's CARD OF 'pelicanlaw16.StageGreen'. -/
def stageGreenUptoCard : Claim7 := { stood := { row := stageGreenUptoRow, standIns := [], harness := (true, "92c6f25355cd12ce7d1eb4560726e6aa06def0b89ab8c1965beab0e00d93dcd0"), looks := false }, kinds := [], alts := [], laidByText := true, laidKinds := [.data, .data], laidTests := true, laidLooks := .later }
def StageGreenUptoCardSaid : Prop := Claim7.holds Tryd.pinned (.plain (OpenSpec.upto stageGreenSpec)) stageGreenUptoCard

/-- THE SECOND FORM's CARD OF 'pelicanlaw16.StageBetween'. -/
def stageBetweenUptoCard : Claim7 := { stood := { row := stageBetweenUptoRow, standIns := [], harness := (true, "92c6f25355cd12ce7d1eb4560726e6aa06def0b89ab8c1965beab0e00d93dcd0"), looks := false }, kinds := [], alts := [], laidByText := true, laidKinds := [.data, .data], laidTests := true, laidLooks := .later }
def StageBetweenUptoCardSaid : Prop := Claim7.holds Tryd.pinned (.plain (OpenSpec.upto stageBetweenSpec)) stageBetweenUptoCard

/-- THE SECOND FORM's CARD OF 'pelicanlaw16.StageStops'. -/
def stageStopsUptoCard : Claim7 := { stood := { row := stageStopsUptoRow, standIns := [], harness := (true, "92c6f25355cd12ce7d1eb4560726e6aa06def0b89ab8c1965beab0e00d93dcd0"), looks := false }, kinds := [], alts := [], laidByText := true, laidKinds := [.data, .data], laidTests := true, laidLooks := .later }
def StageStopsUptoCardSaid : Prop := Claim7.holds Tryd.pinned (.plain (OpenSpec.upto stageStopsSpec)) stageStopsUptoCard

/-- THE SECOND FORM's CARD OF 'pelicanlaw16.StageRun'. -/
def stageRunUptoCard : Claim7 := { stood := { row := stageRunUptoRow, standIns := [], harness := (true, "92c6f25355cd12ce7d1eb4560726e6aa06def0b89ab8c1965beab0e00d93dcd0"), looks := false }, kinds := [], alts := [], laidByText := true, laidKinds := [.data, .data], laidTests := true, laidLooks := .later }
def StageRunUptoCardSaid : Prop := Claim7.holds Tryd.pinned (.plain (OpenSpec.upto stageRunSpec)) stageRunUptoCard

/-- THE SECOND FORM's CARD OF 'pelicanlaw16.StageStays'. -/
def stageStaysUptoCard : Claim7 := { stood := { row := stageStaysUptoRow, standIns := [], harness := (true, "92c6f25355cd12ce7d1eb4560726e6aa06def0b89ab8c1965beab0e00d93dcd0"), looks := false }, kinds := [], alts := [], laidByText := true, laidKinds := [.data, .data], laidTests := true, laidLooks := .later }
def StageStaysUptoCardSaid : Prop := Claim7.holds Tryd.pinned (.plain (OpenSpec.upto stageStaysSpec)) stageStaysUptoCard

/-- THE SECOND FORM's CARD OF 'pelicanlaw15.LampTells'. -/
def lampTellsUptoCard : Claim7 := { stood := { row := lampTellsUptoRow, standIns := [], harness := (true, "92c6f25355cd12ce7d1eb4560726e6aa06def0b89ab8c1965beab0e00d93dcd0"), looks := false }, kinds := [], alts := [], laidByText := true, laidKinds := [.data, .data], laidTests := true, laidLooks := .later }
def LampTellsUptoCardSaid : Prop := Claim7.holds Tryd.pinned (.plain (OpenSpec.upto lampTellsSpec)) lampTellsUptoCard

/-- THE SECOND FORM's CARD OF 'pelicanlaw15.LampBack'. -/
def lampBackUptoCard : Claim7 := { stood := { row := lampBackUptoRow, standIns := [], harness := (true, "92c6f25355cd12ce7d1eb4560726e6aa06def0b89ab8c1965beab0e00d93dcd0"), looks := false }, kinds := [], alts := [], laidByText := true, laidKinds := [.data, .data], laidTests := true, laidLooks := .later }
def LampBackUptoCardSaid : Prop := Claim7.holds Tryd.pinned (.plain (OpenSpec.upto lampBackSpec)) lampBackUptoCard

/-- THE SECOND FORM's CARD OF 'pelicanlaw15.LampFree'. -/
def lampFreeUptoCard : Claim7 := { stood := { row := lampFreeUptoRow, standIns := [], harness := (true, "92c6f25355cd12ce7d1eb4560726e6aa06def0b89ab8c1965beab0e00d93dcd0"), looks := false }, kinds := [], alts := [], laidByText := true, laidKinds := [.data, .data], laidTests := true, laidLooks := .later }
def LampFreeUptoCardSaid : Prop := Claim7.holds Tryd.pinned (.plain (OpenSpec.upto lampFreeSpec)) lampFreeUptoCard

/-- THE SECOND FORM's CARD OF 'pelicanlaw15.LampShow'. -/
def lampShowUptoCard : Claim7 := { stood := { row := lampShowUptoRow, standIns := [], harness := (true, "92c6f25355cd12ce7d1eb4560726e6aa06def0b89ab8c1965beab0e00d93dcd0"), looks := false }, kinds := [], alts := [], laidByText := true, laidKinds := [.data, .data], laidTests := true, laidLooks := .later }
def LampShowUptoCardSaid : Prop := Claim7.holds Tryd.pinned (.plain (OpenSpec.upto lampShowSpec)) lampShowUptoCard

/-- THE SECOND FORM's CARD OF 'pelicanlaw15.LampClash'. -/
def lampClashUptoCard : Claim7 := { stood := { row := lampClashUptoRow, standIns := [], harness := (true, "92c6f25355cd12ce7d1eb4560726e6aa06def0b89ab8c1965beab0e00d93dcd0"), looks := false }, kinds := [], alts := [], laidByText := true, laidKinds := [.data, .data], laidTests := true, laidLooks := .later }
def LampClashUptoCardSaid : Prop := Claim7.holds Tryd.pinned (.plain (OpenSpec.upto lampClashSpec)) lampClashUptoCard
end Rows
end Go.Proofs.YtechgjbhgeddjaaDoor
