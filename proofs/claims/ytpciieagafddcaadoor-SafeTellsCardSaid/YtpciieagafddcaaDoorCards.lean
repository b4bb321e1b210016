/-
  DERIVED. GIVEN WITH THE SEED: THE CARDS: each row of YtpciieagafddcaaDoorRows.lean that lists a variable, with what it lists TIED to the program's text (the seventh form; the later family's looks); each row that meets fmt, with fmt's text TOLD by the authors' own Lean function (tested against real Go, not proved from fmt's source: count such statements apart). THE CARD IS WHAT COUNTS. Prove the row's statement (the work); the ties are given (YtpciieagafddcaaDoorTie.lean); close each card by the builder's one call (the guide's Derived/Test/ToyasCard.lean, 'card_holds'). Laid BY PROGRAM, IN A SANDBOX (cutbox-door.mjs). By AI agents, Wed Nov 11 2026. No macro, syntax, notation, axiom, sorry.
-/
import Derived.Test.YtpciieagafddcaaDoorRows
import GoSem.ClaimSeven
namespace Go.Proofs.YtpciieagafddcaaDoor
namespace Rows

/-- THE TIED CARD OF 'pelicanlaw23.TraceTells'. -/
def traceTellsCard : Claim7 := { stood := { row := traceTellsRow, standIns := [], harness := (true, "4380db8c651a8fbaa48d545034e56bdbb666504a850215a4bb45c13e0871ec93"), looks := true }, kinds := [], alts := [], laidByText := true, laidKinds := [.data, .data], laidTests := true, laidLooks := .later }
def TraceTellsCardSaid : Prop := Claim7.holds Tryd.pinned (.plain (OpenSpec.ofChange traceTellsSpec)) traceTellsCard

/-- THE TIED CARD OF 'pelicanlaw23.TraceCut'. -/
def traceCutCard : Claim7 := { stood := { row := traceCutRow, standIns := [], harness := (true, "4380db8c651a8fbaa48d545034e56bdbb666504a850215a4bb45c13e0871ec93"), looks := true }, kinds := [], alts := [], laidByText := true, laidKinds := [.data, .data], laidTests := true, laidLooks := .later }
def TraceCutCardSaid : Prop := Claim7.holds Tryd.pinned (.plain (OpenSpec.ofChange traceCutSpec)) traceCutCard

/-- THE TIED CARD OF 'pelicanlaw23.TraceFree'. -/
def traceFreeCard : Claim7 := { stood := { row := traceFreeRow, standIns := [], harness := (true, "4380db8c651a8fbaa48d545034e56bdbb666504a850215a4bb45c13e0871ec93"), looks := true }, kinds := [], alts := [], laidByText := true, laidKinds := [.data, .data], laidTests := true, laidLooks := .later }
def TraceFreeCardSaid : Prop := Claim7.holds Tryd.pinned (.plain (OpenSpec.ofChange traceFreeSpec)) traceFreeCard

/-- THE TIED CARD OF 'pelicanlaw23.TraceGreen'. -/
def traceGreenCard : Claim7 := { stood := { row := traceGreenRow, standIns := [], harness := (true, "4380db8c651a8fbaa48d545034e56bdbb666504a850215a4bb45c13e0871ec93"), looks := true }, kinds := [], alts := [], laidByText := true, laidKinds := [.data, .data], laidTests := true, laidLooks := .later }
def TraceGreenCardSaid : Prop := Claim7.holds Tryd.pinned (.plain (OpenSpec.ofChange traceGreenSpec)) traceGreenCard

/-- THE TIED CARD OF 'pelicanlaw17.SafeTells'. -/
def safeTellsCard : Claim7 := { stood := { row := safeTellsRow, standIns := [], harness := (true, "4380db8c651a8fbaa48d545034e56bdbb666504a850215a4bb45c13e0871ec93"), looks := true }, kinds := [], alts := [], laidByText := true, laidKinds := [.data, .data], laidTests := true, laidLooks := .later }
def SafeTellsCardSaid : Prop := Claim7.holds Tryd.pinned (.plain (OpenSpec.ofChange safeTellsSpec)) safeTellsCard

/-- THE TIED CARD OF 'pelicanlaw17.SafeStays'. -/
def safeStaysCard : Claim7 := { stood := { row := safeStaysRow, standIns := [], harness := (true, "4380db8c651a8fbaa48d545034e56bdbb666504a850215a4bb45c13e0871ec93"), looks := true }, kinds := [], alts := [], laidByText := true, laidKinds := [.data, .data], laidTests := true, laidLooks := .later }
def SafeStaysCardSaid : Prop := Claim7.holds Tryd.pinned (.plain (OpenSpec.ofChange safeStaysSpec)) safeStaysCard

/-- THE TIED CARD OF 'pelicanlaw17.SafeHold'. -/
def safeHoldCard : Claim7 := { stood := { row := safeHoldRow, standIns := [], harness := (true, "4380db8c651a8fbaa48d545034e56bdbb666504a850215a4bb45c13e0871ec93"), looks := true }, kinds := [], alts := [], laidByText := true, laidKinds := [.data, .data], laidTests := true, laidLooks := .later }
def SafeHoldCardSaid : Prop := Claim7.holds Tryd.pinned (.plain (OpenSpec.ofChange safeHoldSpec)) safeHoldCard

/-- THE TIED CARD OF 'pelicanlaw17.SafeRed'. -/
def safeRedCard : Claim7 := { stood := { row := safeRedRow, standIns := [], harness := (true, "4380db8c651a8fbaa48d545034e56bdbb666504a850215a4bb45c13e0871ec93"), looks := true }, kinds := [], alts := [], laidByText := true, laidKinds := [.data, .data], laidTests := true, laidLooks := .later }
def SafeRedCardSaid : Prop := Claim7.holds Tryd.pinned (.plain (OpenSpec.ofChange safeRedSpec)) safeRedCard

/-- THE TIED CARD OF 'pelicanlaw17.SafeNext'. -/
def safeNextCard : Claim7 := { stood := { row := safeNextRow, standIns := [], harness := (true, "4380db8c651a8fbaa48d545034e56bdbb666504a850215a4bb45c13e0871ec93"), looks := true }, kinds := [], alts := [], laidByText := true, laidKinds := [.data, .data], laidTests := true, laidLooks := .later }
def SafeNextCardSaid : Prop := Claim7.holds Tryd.pinned (.plain (OpenSpec.ofChange safeNextSpec)) safeNextCard

/-- THE TIED CARD OF 'pelicanlaw17.SafePlan'. -/
def safePlanCard : Claim7 := { stood := { row := safePlanRow, standIns := [], harness := (true, "4380db8c651a8fbaa48d545034e56bdbb666504a850215a4bb45c13e0871ec93"), looks := true }, kinds := [], alts := [], laidByText := true, laidKinds := [.data, .data], laidTests := true, laidLooks := .later }
def SafePlanCardSaid : Prop := Claim7.holds Tryd.pinned (.plain (OpenSpec.ofChange safePlanSpec)) safePlanCard

/-- THE TIED CARD OF 'pelicanlaw17.SafePlay'. -/
def safePlayCard : Claim7 := { stood := { row := safePlayRow, standIns := [], harness := (true, "4380db8c651a8fbaa48d545034e56bdbb666504a850215a4bb45c13e0871ec93"), looks := true }, kinds := [], alts := [], laidByText := true, laidKinds := [.data, .data], laidTests := true, laidLooks := .later }
def SafePlayCardSaid : Prop := Claim7.holds Tryd.pinned (.plain (OpenSpec.ofChange safePlaySpec)) safePlayCard

/-- THE TIED CARD OF 'pelicanlaw23.TraceRuns'. -/
def traceRunsCard : Claim7 := { stood := { row := traceRunsRow, standIns := [], harness := (true, "4380db8c651a8fbaa48d545034e56bdbb666504a850215a4bb45c13e0871ec93"), looks := true }, kinds := [], alts := [], laidByText := true, laidKinds := [.data, .data], laidTests := true, laidLooks := .later }
def TraceRunsCardSaid : Prop := Claim7.holds Tryd.pinned (.plain (OpenSpec.ofChange traceRunsSpec)) traceRunsCard

/-- THE SECOND FORM's CARD OF 'pelicanlaw23.TraceTells'. -/
def traceTellsUptoCard : Claim7 := { stood := { row := traceTellsUptoRow, standIns := [], harness := (true, "4380db8c651a8fbaa48d545034e56bdbb666504a850215a4bb45c13e0871ec93"), looks := true }, kinds := [], alts := [], laidByText := true, laidKinds := [.data, .data], laidTests := true, laidLooks := .later }
def TraceTellsUptoCardSaid : Prop := Claim7.holds Tryd.pinned (.plain (OpenSpec.upto traceTellsSpec)) traceTellsUptoCard

/-- THE SECOND FORM's CARD OF 'pelicanlaw23.TraceCut'. -/
def traceCutUptoCard : Claim7 := { stood := { row := traceCutUptoRow, standIns := [], harness := (true, "4380db8c651a8fbaa48d545034e56bdbb666504a850215a4bb45c13e0871ec93"), looks := true }, kinds := [], alts := [], laidByText := true, laidKinds := [.data, .data], laidTests := true, laidLooks := .later }
def TraceCutUptoCardSaid : Prop := Claim7.holds Tryd.pinned (.plain (OpenSpec.upto traceCutSpec)) traceCutUptoCard

/-- THE SECOND FORM's CARD OF 'pelicanlaw23.TraceFree'. -/
def traceFreeUptoCard : Claim7 := { stood := { row := traceFreeUptoRow, standIns := [], harness := (true, "4380db8c651a8fbaa48d545034e56bdbb666504a850215a4bb45c13e0871ec93"), looks := true }, kinds := [], alts := [], laidByText := true, laidKinds := [.data, .data], laidTests := true, laidLooks := .later }
def TraceFreeUptoCardSaid : Prop := Claim7.holds Tryd.pinned (.plain (OpenSpec.upto traceFreeSpec)) traceFreeUptoCard

/-- THE SECOND FORM's CARD OF 'pelicanlaw23.TraceGreen'. -/
def traceGreenUptoCard : Claim7 := { stood := { row := traceGreenUptoRow, standIns := [], harness := (true, "4380db8c651a8fbaa48d545034e56bdbb666504a850215a4bb45c13e0871ec93"), looks := true }, kinds := [], alts := [], laidByText := true, laidKinds := [.data, .data], laidTests := true, laidLooks := .later }
def TraceGreenUptoCardSaid : Prop := Claim7.holds Tryd.pinned (.plain (OpenSpec.upto traceGreenSpec)) traceGreenUptoCard

/-- THE SECOND FORM's CARD OF 'pelicanlaw17.SafeTells'. -/
def safeTellsUptoCard : Claim7 := { stood := { row := safeTellsUptoRow, standIns := [], harness := (true, "4380db8c651a8fbaa48d545034e56bdbb666504a850215a4bb45c13e0871ec93"), looks := true }, kinds := [], alts := [], laidByText := true, laidKinds := [.data, .data], laidTests := true, laidLooks := .later }
def SafeTellsUptoCardSaid : Prop := Claim7.holds Tryd.pinned (.plain (OpenSpec.upto safeTellsSpec)) safeTellsUptoCard

/-- THE SECOND FORM's CARD OF 'pelicanlaw17.SafeStays'. -/
def safeStaysUptoCard : Claim7 := { stood := { row := safeStaysUptoRow, standIns := [], harness := (true, "4380db8c651a8fbaa48d545034e56bdbb666504a850215a4bb45c13e0871ec93"), looks := true }, kinds := [], alts := [], laidByText := true, laidKinds := [.data, .data], laidTests := true, laidLooks := .later }
def SafeStaysUptoCardSaid : Prop := Claim7.holds Tryd.pinned (.plain (OpenSpec.upto safeStaysSpec)) safeStaysUptoCard

/-- THE SECOND FORM's CARD OF 'pelicanlaw17.SafeHold'. -/
def safeHoldUptoCard : Claim7 := { stood := { row := safeHoldUptoRow, standIns := [], harness := (true, "4380db8c651a8fbaa48d545034e56bdbb666504a850215a4bb45c13e0871ec93"), looks := true }, kinds := [], alts := [], laidByText := true, laidKinds := [.data, .data], laidTests := true, laidLooks := .later }
def SafeHoldUptoCardSaid : Prop := Claim7.holds Tryd.pinned (.plain (OpenSpec.upto safeHoldSpec)) safeHoldUptoCard

/-- THE SECOND FORM's CARD OF 'pelicanlaw17.SafeRed'. -/
def safeRedUptoCard : Claim7 := { stood := { row := safeRedUptoRow, standIns := [], harness := (true, "4380db8c651a8fbaa48d545034e56bdbb666504a850215a4bb45c13e0871ec93"), looks := true }, kinds := [], alts := [], laidByText := true, laidKinds := [.data, .data], laidTests := true, laidLooks := .later }
def SafeRedUptoCardSaid : Prop := Claim7.holds Tryd.pinned (.plain (OpenSpec.upto safeRedSpec)) safeRedUptoCard

/-- THE SECOND FORM's CARD OF 'pelicanlaw17.SafeNext'. -/
def safeNextUptoCard : Claim7 := { stood := { row := safeNextUptoRow, standIns := [], harness := (true, "4380db8c651a8fbaa48d545034e56bdbb666504a850215a4bb45c13e0871ec93"), looks := true }, kinds := [], alts := [], laidByText := true, laidKinds := [.data, .data], laidTests := true, laidLooks := .later }
def SafeNextUptoCardSaid : Prop := Claim7.holds Tryd.pinned (.plain (OpenSpec.upto safeNextSpec)) safeNextUptoCard

/-- THE SECOND FORM's CARD OF 'pelicanlaw17.SafePlan'. -/
def safePlanUptoCard : Claim7 := { stood := { row := safePlanUptoRow, standIns := [], harness := (true, "4380db8c651a8fbaa48d545034e56bdbb666504a850215a4bb45c13e0871ec93"), looks := true }, kinds := [], alts := [], laidByText := true, laidKinds := [.data, .data], laidTests := true, laidLooks := .later }
def SafePlanUptoCardSaid : Prop := Claim7.holds Tryd.pinned (.plain (OpenSpec.upto safePlanSpec)) safePlanUptoCard

/-- THE SECOND FORM's CARD OF 'pelicanlaw17.SafePlay'. -/
def safePlayUptoCard : Claim7 := { stood := { row := safePlayUptoRow, standIns := [], harness := (true, "4380db8c651a8fbaa48d545034e56bdbb666504a850215a4bb45c13e0871ec93"), looks := true }, kinds := [], alts := [], laidByText := true, laidKinds := [.data, .data], laidTests := true, laidLooks := .later }
def SafePlayUptoCardSaid : Prop := Claim7.holds Tryd.pinned (.plain (OpenSpec.upto safePlaySpec)) safePlayUptoCard

/-- THE SECOND FORM's CARD OF 'pelicanlaw23.TraceRuns'. -/
def traceRunsUptoCard : Claim7 := { stood := { row := traceRunsUptoRow, standIns := [], harness := (true, "4380db8c651a8fbaa48d545034e56bdbb666504a850215a4bb45c13e0871ec93"), looks := true }, kinds := [], alts := [], laidByText := true, laidKinds := [.data, .data], laidTests := true, laidLooks := .later }
def TraceRunsUptoCardSaid : Prop := Claim7.holds Tryd.pinned (.plain (OpenSpec.upto traceRunsSpec)) traceRunsUptoCard
end Rows
end Go.Proofs.YtpciieagafddcaaDoor
