/-
  DERIVED. GIVEN WITH THE SEED: THE CARDS: each row of YtnefbeplgfdkkaaDoorRows.lean that lists a variable, with what it lists TIED to the program's text (the seventh form; the later family's looks); each row that meets fmt, with fmt's text TOLD by the authors' own Lean function (tested against real Go, not proved from fmt's source: count such statements apart). THE CARD IS WHAT COUNTS. Prove the row's statement (the work); the ties are given (YtnefbeplgfdkkaaDoorTie.lean); close each card by the builder's one call (the guide's Derived/Test/ToyasCard.lean, 'card_holds'). Laid BY PROGRAM, IN A SANDBOX (cutbox-door.mjs). By AI agents, Wed Nov 11 2026. No macro, syntax, notation, axiom, sorry.
-/
import Derived.Test.YtnefbeplgfdkkaaDoorRows
import GoSem.ClaimSeven
namespace Go.Proofs.YtnefbeplgfdkkaaDoor
namespace Rows

/-- THE TIED CARD OF 'cutroomlaw37.FarmLate'. -/
def farmLateCard : Claim7 := { stood := { row := farmLateRow, standIns := [], harness := (true, "a5f6b66e7e279d29db5111e2a0869e1963fc38886bc6872edc5aaadedff081fe"), looks := false }, kinds := [], alts := [], laidByText := true, laidKinds := [.data, .data, .data], laidTests := true, laidLooks := .later }
def FarmLateCardSaid : Prop := Claim7.holds Tryd.pinned (.plain (OpenSpec.ofChange farmLateSpec)) farmLateCard

/-- THE TIED CARD OF 'cutroomlaw37.FarmLives'. -/
def farmLivesCard : Claim7 := { stood := { row := farmLivesRow, standIns := [], harness := (true, "a5f6b66e7e279d29db5111e2a0869e1963fc38886bc6872edc5aaadedff081fe"), looks := false }, kinds := [], alts := [], laidByText := true, laidKinds := [.data, .data, .data], laidTests := true, laidLooks := .later }
def FarmLivesCardSaid : Prop := Claim7.holds Tryd.pinned (.plain (OpenSpec.ofChange farmLivesSpec)) farmLivesCard

/-- THE TIED CARD OF 'cutroomlaw37.FarmWatches'. -/
def farmWatchesCard : Claim7 := { stood := { row := farmWatchesRow, standIns := [], harness := (true, "a5f6b66e7e279d29db5111e2a0869e1963fc38886bc6872edc5aaadedff081fe"), looks := false }, kinds := [], alts := [], laidByText := true, laidKinds := [.data, .data, .data], laidTests := true, laidLooks := .later }
def FarmWatchesCardSaid : Prop := Claim7.holds Tryd.pinned (.plain (OpenSpec.ofChange farmWatchesSpec)) farmWatchesCard

/-- THE TIED CARD OF 'cutroomlaw37.FarmLeases'. -/
def farmLeasesCard : Claim7 := { stood := { row := farmLeasesRow, standIns := [], harness := (true, "a5f6b66e7e279d29db5111e2a0869e1963fc38886bc6872edc5aaadedff081fe"), looks := false }, kinds := [], alts := [], laidByText := true, laidKinds := [.data, .data, .data], laidTests := true, laidLooks := .later }
def FarmLeasesCardSaid : Prop := Claim7.holds Tryd.pinned (.plain (OpenSpec.ofChange farmLeasesSpec)) farmLeasesCard

/-- THE SECOND FORM's CARD OF 'cutroomlaw37.FarmLate'. -/
def farmLateUptoCard : Claim7 := { stood := { row := farmLateUptoRow, standIns := [], harness := (true, "a5f6b66e7e279d29db5111e2a0869e1963fc38886bc6872edc5aaadedff081fe"), looks := false }, kinds := [], alts := [], laidByText := true, laidKinds := [.data, .data, .data], laidTests := true, laidLooks := .later }
def FarmLateUptoCardSaid : Prop := Claim7.holds Tryd.pinned (.plain (OpenSpec.upto farmLateSpec)) farmLateUptoCard

/-- THE SECOND FORM's CARD OF 'cutroomlaw37.FarmLives'. -/
def farmLivesUptoCard : Claim7 := { stood := { row := farmLivesUptoRow, standIns := [], harness := (true, "a5f6b66e7e279d29db5111e2a0869e1963fc38886bc6872edc5aaadedff081fe"), looks := false }, kinds := [], alts := [], laidByText := true, laidKinds := [.data, .data, .data], laidTests := true, laidLooks := .later }
def FarmLivesUptoCardSaid : Prop := Claim7.holds Tryd.pinned (.plain (OpenSpec.upto farmLivesSpec)) farmLivesUptoCard

/-- THE SECOND FORM's CARD OF 'cutroomlaw37.FarmWatches'. -/
def farmWatchesUptoCard : Claim7 := { stood := { row := farmWatchesUptoRow, standIns := [], harness := (true, "a5f6b66e7e279d29db5111e2a0869e1963fc38886bc6872edc5aaadedff081fe"), looks := false }, kinds := [], alts := [], laidByText := true, laidKinds := [.data, .data, .data], laidTests := true, laidLooks := .later }
def FarmWatchesUptoCardSaid : Prop := Claim7.holds Tryd.pinned (.plain (OpenSpec.upto farmWatchesSpec)) farmWatchesUptoCard

/-- THE SECOND FORM's CARD OF 'cutroomlaw37.FarmLeases'. -/
def farmLeasesUptoCard : Claim7 := { stood := { row := farmLeasesUptoRow, standIns := [], harness := (true, "a5f6b66e7e279d29db5111e2a0869e1963fc38886bc6872edc5aaadedff081fe"), looks := false }, kinds := [], alts := [], laidByText := true, laidKinds := [.data, .data, .data], laidTests := true, laidLooks := .later }
def FarmLeasesUptoCardSaid : Prop := Claim7.holds Tryd.pinned (.plain (OpenSpec.upto farmLeasesSpec)) farmLeasesUptoCard
end Rows
end Go.Proofs.YtnefbeplgfdkkaaDoor
