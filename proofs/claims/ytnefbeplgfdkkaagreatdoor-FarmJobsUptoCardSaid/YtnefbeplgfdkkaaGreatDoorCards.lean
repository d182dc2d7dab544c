/-
  DERIVED. GIVEN WITH THE SEED: THE CARDS: each row of YtnefbeplgfdkkaaGreatDoorRows.lean that lists a variable, with what it lists TIED to the program's text (the seventh form; the later family's looks); each row that meets fmt, with fmt's text TOLD by the authors' own Lean function (tested against real Go, not proved from fmt's source: count such statements apart). THE CARD IS WHAT COUNTS. Prove the row's statement (the work); the ties are given (YtnefbeplgfdkkaaGreatDoorTie.lean); close each card by the builder's one call (the guide's Derived/Test/ToyasCard.lean, 'card_holds'). Laid BY PROGRAM, IN A SANDBOX (cutbox-door.mjs). By AI agents, Wed Nov 11 2026. No macro, syntax, notation, axiom, sorry.
-/
import Derived.Test.YtnefbeplgfdkkaaGreatDoorRows
import GoSem.ClaimSeven
namespace Go.Proofs.YtnefbeplgfdkkaaGreatDoor
namespace Rows

/-- THE TIED CARD OF 'cutroomlaw37.FarmJobs'. -/
def farmJobsCard : Claim7 := { stood := { row := farmJobsRow, standIns := [], harness := (true, "02381d6e26034f4bfeba242635871046e4c6e8e1505fadca35b87f21861049d9"), looks := false }, kinds := [], alts := [], laidByText := true, laidKinds := [.data, .data, .data], laidTests := true, laidLooks := .later }
def FarmJobsCardSaid : Prop := Claim7.holds Tryz.pinned (.plain (OpenSpec.ofChange farmJobsSpec)) farmJobsCard

/-- THE TIED CARD OF 'cutroomlaw37.FarmStates'. -/
def farmStatesCard : Claim7 := { stood := { row := farmStatesRow, standIns := [], harness := (true, "02381d6e26034f4bfeba242635871046e4c6e8e1505fadca35b87f21861049d9"), looks := false }, kinds := [], alts := [], laidByText := true, laidKinds := [.data, .data, .data], laidTests := true, laidLooks := .later }
def FarmStatesCardSaid : Prop := Claim7.holds Tryz.pinned (.plain (OpenSpec.ofChange farmStatesSpec)) farmStatesCard

/-- THE TIED CARD OF 'cutroomlaw37.FarmDone'. -/
def farmDoneCard : Claim7 := { stood := { row := farmDoneRow, standIns := [], harness := (true, "02381d6e26034f4bfeba242635871046e4c6e8e1505fadca35b87f21861049d9"), looks := false }, kinds := [], alts := [], laidByText := true, laidKinds := [.data, .data, .data], laidTests := true, laidLooks := .later }
def FarmDoneCardSaid : Prop := Claim7.holds Tryz.pinned (.plain (OpenSpec.ofChange farmDoneSpec)) farmDoneCard

/-- THE TIED CARD OF 'cutroomlaw37.FarmRuns'. -/
def farmRunsCard : Claim7 := { stood := { row := farmRunsRow, standIns := [], harness := (true, "02381d6e26034f4bfeba242635871046e4c6e8e1505fadca35b87f21861049d9"), looks := false }, kinds := [], alts := [], laidByText := true, laidKinds := [.data, .data, .data], laidTests := true, laidLooks := .later }
def FarmRunsCardSaid : Prop := Claim7.holds Tryz.pinned (.plain (OpenSpec.ofChange farmRunsSpec)) farmRunsCard

/-- THE SECOND FORM's CARD OF 'cutroomlaw37.FarmJobs'. -/
def farmJobsUptoCard : Claim7 := { stood := { row := farmJobsUptoRow, standIns := [], harness := (true, "02381d6e26034f4bfeba242635871046e4c6e8e1505fadca35b87f21861049d9"), looks := false }, kinds := [], alts := [], laidByText := true, laidKinds := [.data, .data, .data], laidTests := true, laidLooks := .later }
def FarmJobsUptoCardSaid : Prop := Claim7.holds Tryz.pinned (.plain (OpenSpec.upto farmJobsSpec)) farmJobsUptoCard

/-- THE SECOND FORM's CARD OF 'cutroomlaw37.FarmStates'. -/
def farmStatesUptoCard : Claim7 := { stood := { row := farmStatesUptoRow, standIns := [], harness := (true, "02381d6e26034f4bfeba242635871046e4c6e8e1505fadca35b87f21861049d9"), looks := false }, kinds := [], alts := [], laidByText := true, laidKinds := [.data, .data, .data], laidTests := true, laidLooks := .later }
def FarmStatesUptoCardSaid : Prop := Claim7.holds Tryz.pinned (.plain (OpenSpec.upto farmStatesSpec)) farmStatesUptoCard

/-- THE SECOND FORM's CARD OF 'cutroomlaw37.FarmDone'. -/
def farmDoneUptoCard : Claim7 := { stood := { row := farmDoneUptoRow, standIns := [], harness := (true, "02381d6e26034f4bfeba242635871046e4c6e8e1505fadca35b87f21861049d9"), looks := false }, kinds := [], alts := [], laidByText := true, laidKinds := [.data, .data, .data], laidTests := true, laidLooks := .later }
def FarmDoneUptoCardSaid : Prop := Claim7.holds Tryz.pinned (.plain (OpenSpec.upto farmDoneSpec)) farmDoneUptoCard

/-- THE SECOND FORM's CARD OF 'cutroomlaw37.FarmRuns'. -/
def farmRunsUptoCard : Claim7 := { stood := { row := farmRunsUptoRow, standIns := [], harness := (true, "02381d6e26034f4bfeba242635871046e4c6e8e1505fadca35b87f21861049d9"), looks := false }, kinds := [], alts := [], laidByText := true, laidKinds := [.data, .data, .data], laidTests := true, laidLooks := .later }
def FarmRunsUptoCardSaid : Prop := Claim7.holds Tryz.pinned (.plain (OpenSpec.upto farmRunsSpec)) farmRunsUptoCard
end Rows
end Go.Proofs.YtnefbeplgfdkkaaGreatDoor
