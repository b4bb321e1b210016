/-
  DERIVED. GIVEN WITH THE SEED: THE CARDS: each row of YtnogkpofgkaefaaDoorRows.lean that lists a variable, with what it lists TIED to the program's text (the seventh form; the later family's looks); each row that meets fmt, with fmt's text TOLD by the authors' own Lean function (tested against real Go, not proved from fmt's source: count such statements apart). THE CARD IS WHAT COUNTS. Prove the row's statement (the work); the ties are given (YtnogkpofgkaefaaDoorTie.lean); close each card by the builder's one call (the guide's Derived/Test/ToyasCard.lean, 'card_holds'). Laid BY PROGRAM, IN A SANDBOX (cutbox-door.mjs). By AI agents, Wed Nov 11 2026. No macro, syntax, notation, axiom, sorry.
-/
import Derived.Test.YtnogkpofgkaefaaDoorRows
import GoSem.ClaimSeven
namespace Go.Proofs.YtnogkpofgkaefaaDoor
namespace Rows

/-- THE TIED CARD OF 'pelicanlaw13.GroupTells'. -/
def groupTellsCard : Claim7 := { stood := { row := groupTellsRow, standIns := [], harness := (true, "b53bb64d6905f75266489f38b495231fa48918e1c84aa63898e8a66120fe4ae3"), looks := false }, kinds := [], alts := [], laidByText := true, laidKinds := [.data, .data], laidTests := true, laidLooks := .later }
def GroupTellsCardSaid : Prop := Claim7.holds Tryd.pinned (.plain (OpenSpec.ofChange groupTellsSpec)) groupTellsCard

/-- THE TIED CARD OF 'pelicanlaw13.GroupBack'. -/
def groupBackCard : Claim7 := { stood := { row := groupBackRow, standIns := [], harness := (true, "b53bb64d6905f75266489f38b495231fa48918e1c84aa63898e8a66120fe4ae3"), looks := false }, kinds := [], alts := [], laidByText := true, laidKinds := [.data, .data], laidTests := true, laidLooks := .later }
def GroupBackCardSaid : Prop := Claim7.holds Tryd.pinned (.plain (OpenSpec.ofChange groupBackSpec)) groupBackCard

/-- THE TIED CARD OF 'pelicanlaw13.GroupAgainst'. -/
def groupAgainstCard : Claim7 := { stood := { row := groupAgainstRow, standIns := [], harness := (true, "b53bb64d6905f75266489f38b495231fa48918e1c84aa63898e8a66120fe4ae3"), looks := false }, kinds := [], alts := [], laidByText := true, laidKinds := [.data, .data], laidTests := true, laidLooks := .later }
def GroupAgainstCardSaid : Prop := Claim7.holds Tryd.pinned (.plain (OpenSpec.ofChange groupAgainstSpec)) groupAgainstCard

/-- THE TIED CARD OF 'pelicanlaw13.GroupSets'. -/
def groupSetsCard : Claim7 := { stood := { row := groupSetsRow, standIns := [], harness := (true, "b53bb64d6905f75266489f38b495231fa48918e1c84aa63898e8a66120fe4ae3"), looks := false }, kinds := [], alts := [], laidByText := true, laidKinds := [.data, .data], laidTests := true, laidLooks := .later }
def GroupSetsCardSaid : Prop := Claim7.holds Tryd.pinned (.plain (OpenSpec.ofChange groupSetsSpec)) groupSetsCard

/-- THE TIED CARD OF 'pelicanlaw13.GroupPart'. -/
def groupPartCard : Claim7 := { stood := { row := groupPartRow, standIns := [], harness := (true, "b53bb64d6905f75266489f38b495231fa48918e1c84aa63898e8a66120fe4ae3"), looks := false }, kinds := [], alts := [], laidByText := true, laidKinds := [.data, .data], laidTests := true, laidLooks := .later }
def GroupPartCardSaid : Prop := Claim7.holds Tryd.pinned (.plain (OpenSpec.ofChange groupPartSpec)) groupPartCard

/-- THE TIED CARD OF 'pelicanlaw14.PlanTells'. -/
def planTellsCard : Claim7 := { stood := { row := planTellsRow, standIns := [], harness := (true, "b53bb64d6905f75266489f38b495231fa48918e1c84aa63898e8a66120fe4ae3"), looks := false }, kinds := [], alts := [], laidByText := true, laidKinds := [.data, .data], laidTests := true, laidLooks := .later }
def PlanTellsCardSaid : Prop := Claim7.holds Tryd.pinned (.plain (OpenSpec.ofChange planTellsSpec)) planTellsCard

/-- THE TIED CARD OF 'pelicanlaw14.PlanRound'. -/
def planRoundCard : Claim7 := { stood := { row := planRoundRow, standIns := [], harness := (true, "b53bb64d6905f75266489f38b495231fa48918e1c84aa63898e8a66120fe4ae3"), looks := false }, kinds := [], alts := [], laidByText := true, laidKinds := [.data, .data], laidTests := true, laidLooks := .later }
def PlanRoundCardSaid : Prop := Claim7.holds Tryd.pinned (.plain (OpenSpec.ofChange planRoundSpec)) planRoundCard

/-- THE TIED CARD OF 'pelicanlaw14.PlanLeast'. -/
def planLeastCard : Claim7 := { stood := { row := planLeastRow, standIns := [], harness := (true, "b53bb64d6905f75266489f38b495231fa48918e1c84aa63898e8a66120fe4ae3"), looks := false }, kinds := [], alts := [], laidByText := true, laidKinds := [.data, .data], laidTests := true, laidLooks := .later }
def PlanLeastCardSaid : Prop := Claim7.holds Tryd.pinned (.plain (OpenSpec.ofChange planLeastSpec)) planLeastCard

/-- THE TIED CARD OF 'pelicanlaw14.PlanFree'. -/
def planFreeCard : Claim7 := { stood := { row := planFreeRow, standIns := [], harness := (true, "b53bb64d6905f75266489f38b495231fa48918e1c84aa63898e8a66120fe4ae3"), looks := false }, kinds := [], alts := [], laidByText := true, laidKinds := [.data, .data], laidTests := true, laidLooks := .later }
def PlanFreeCardSaid : Prop := Claim7.holds Tryd.pinned (.plain (OpenSpec.ofChange planFreeSpec)) planFreeCard

/-- THE TIED CARD OF 'pelicanlaw14.PlanAll'. -/
def planAllCard : Claim7 := { stood := { row := planAllRow, standIns := [], harness := (true, "b53bb64d6905f75266489f38b495231fa48918e1c84aa63898e8a66120fe4ae3"), looks := false }, kinds := [], alts := [], laidByText := true, laidKinds := [.data, .data], laidTests := true, laidLooks := .later }
def PlanAllCardSaid : Prop := Claim7.holds Tryd.pinned (.plain (OpenSpec.ofChange planAllSpec)) planAllCard

/-- THE TIED CARD OF 'pelicanlaw14.PlanCycle'. -/
def planCycleCard : Claim7 := { stood := { row := planCycleRow, standIns := [], harness := (true, "b53bb64d6905f75266489f38b495231fa48918e1c84aa63898e8a66120fe4ae3"), looks := false }, kinds := [], alts := [], laidByText := true, laidKinds := [.data, .data], laidTests := true, laidLooks := .later }
def PlanCycleCardSaid : Prop := Claim7.holds Tryd.pinned (.plain (OpenSpec.ofChange planCycleSpec)) planCycleCard

/-- THE SECOND FORM's CARD OF 'pelicanlaw13.GroupTells'. -/
def groupTellsUptoCard : Claim7 := { stood := { row := groupTellsUptoRow, standIns := [], harness := (true, "b53bb64d6905f75266489f38b495231fa48918e1c84aa63898e8a66120fe4ae3"), looks := false }, kinds := [], alts := [], laidByText := true, laidKinds := [.data, .data], laidTests := true, laidLooks := .later }
def GroupTellsUptoCardSaid : Prop := Claim7.holds Tryd.pinned (.plain (OpenSpec.upto groupTellsSpec)) groupTellsUptoCard

/-- THE SECOND FORM's CARD OF 'pelicanlaw13.GroupBack'. -/
def groupBackUptoCard : Claim7 := { stood := { row := groupBackUptoRow, standIns := [], harness := (true, "b53bb64d6905f75266489f38b495231fa48918e1c84aa63898e8a66120fe4ae3"), looks := false }, kinds := [], alts := [], laidByText := true, laidKinds := [.data, .data], laidTests := true, laidLooks := .later }
def GroupBackUptoCardSaid : Prop := Claim7.holds Tryd.pinned (.plain (OpenSpec.upto groupBackSpec)) groupBackUptoCard

/-- THE SECOND FORM's CARD OF 'pelicanlaw13.GroupAgainst'. -/
def groupAgainstUptoCard : Claim7 := { stood := { row := groupAgainstUptoRow, standIns := [], harness := (true, "b53bb64d6905f75266489f38b495231fa48918e1c84aa63898e8a66120fe4ae3"), looks := false }, kinds := [], alts := [], laidByText := true, laidKinds := [.data, .data], laidTests := true, laidLooks := .later }
def GroupAgainstUptoCardSaid : Prop := Claim7.holds Tryd.pinned (.plain (OpenSpec.upto groupAgainstSpec)) groupAgainstUptoCard

/-- THE SECOND FORM's CARD OF 'pelicanlaw13.GroupSets'. -/
def groupSetsUptoCard : Claim7 := { stood := { row := groupSetsUptoRow, standIns := [], harness := (true, "b53bb64d6905f75266489f38b495231fa48918e1c84aa63898e8a66120fe4ae3"), looks := false }, kinds := [], alts := [], laidByText := true, laidKinds := [.data, .data], laidTests := true, laidLooks := .later }
def GroupSetsUptoCardSaid : Prop := Claim7.holds Tryd.pinned (.plain (OpenSpec.upto groupSetsSpec)) groupSetsUptoCard

/-- THE SECOND FORM's CARD OF 'pelicanlaw13.GroupPart'. -/
def groupPartUptoCard : Claim7 := { stood := { row := groupPartUptoRow, standIns := [], harness := (true, "b53bb64d6905f75266489f38b495231fa48918e1c84aa63898e8a66120fe4ae3"), looks := false }, kinds := [], alts := [], laidByText := true, laidKinds := [.data, .data], laidTests := true, laidLooks := .later }
def GroupPartUptoCardSaid : Prop := Claim7.holds Tryd.pinned (.plain (OpenSpec.upto groupPartSpec)) groupPartUptoCard

/-- THE SECOND FORM's CARD OF 'pelicanlaw14.PlanTells'. -/
def planTellsUptoCard : Claim7 := { stood := { row := planTellsUptoRow, standIns := [], harness := (true, "b53bb64d6905f75266489f38b495231fa48918e1c84aa63898e8a66120fe4ae3"), looks := false }, kinds := [], alts := [], laidByText := true, laidKinds := [.data, .data], laidTests := true, laidLooks := .later }
def PlanTellsUptoCardSaid : Prop := Claim7.holds Tryd.pinned (.plain (OpenSpec.upto planTellsSpec)) planTellsUptoCard

/-- THE SECOND FORM's CARD OF 'pelicanlaw14.PlanRound'. -/
def planRoundUptoCard : Claim7 := { stood := { row := planRoundUptoRow, standIns := [], harness := (true, "b53bb64d6905f75266489f38b495231fa48918e1c84aa63898e8a66120fe4ae3"), looks := false }, kinds := [], alts := [], laidByText := true, laidKinds := [.data, .data], laidTests := true, laidLooks := .later }
def PlanRoundUptoCardSaid : Prop := Claim7.holds Tryd.pinned (.plain (OpenSpec.upto planRoundSpec)) planRoundUptoCard

/-- THE SECOND FORM's CARD OF 'pelicanlaw14.PlanLeast'. -/
def planLeastUptoCard : Claim7 := { stood := { row := planLeastUptoRow, standIns := [], harness := (true, "b53bb64d6905f75266489f38b495231fa48918e1c84aa63898e8a66120fe4ae3"), looks := false }, kinds := [], alts := [], laidByText := true, laidKinds := [.data, .data], laidTests := true, laidLooks := .later }
def PlanLeastUptoCardSaid : Prop := Claim7.holds Tryd.pinned (.plain (OpenSpec.upto planLeastSpec)) planLeastUptoCard

/-- THE SECOND FORM's CARD OF 'pelicanlaw14.PlanFree'. -/
def planFreeUptoCard : Claim7 := { stood := { row := planFreeUptoRow, standIns := [], harness := (true, "b53bb64d6905f75266489f38b495231fa48918e1c84aa63898e8a66120fe4ae3"), looks := false }, kinds := [], alts := [], laidByText := true, laidKinds := [.data, .data], laidTests := true, laidLooks := .later }
def PlanFreeUptoCardSaid : Prop := Claim7.holds Tryd.pinned (.plain (OpenSpec.upto planFreeSpec)) planFreeUptoCard

/-- THE SECOND FORM's CARD OF 'pelicanlaw14.PlanAll'. -/
def planAllUptoCard : Claim7 := { stood := { row := planAllUptoRow, standIns := [], harness := (true, "b53bb64d6905f75266489f38b495231fa48918e1c84aa63898e8a66120fe4ae3"), looks := false }, kinds := [], alts := [], laidByText := true, laidKinds := [.data, .data], laidTests := true, laidLooks := .later }
def PlanAllUptoCardSaid : Prop := Claim7.holds Tryd.pinned (.plain (OpenSpec.upto planAllSpec)) planAllUptoCard

/-- THE SECOND FORM's CARD OF 'pelicanlaw14.PlanCycle'. -/
def planCycleUptoCard : Claim7 := { stood := { row := planCycleUptoRow, standIns := [], harness := (true, "b53bb64d6905f75266489f38b495231fa48918e1c84aa63898e8a66120fe4ae3"), looks := false }, kinds := [], alts := [], laidByText := true, laidKinds := [.data, .data], laidTests := true, laidLooks := .later }
def PlanCycleUptoCardSaid : Prop := Claim7.holds Tryd.pinned (.plain (OpenSpec.upto planCycleSpec)) planCycleUptoCard
end Rows
end Go.Proofs.YtnogkpofgkaefaaDoor
