/-
  DERIVED. GIVEN WITH THE SEED: THE CARDS: each row of YtebdgoikmclflaaGreatDoorRows.lean that lists a variable, with what it lists TIED to the program's text (the seventh form; the later family's looks); each row that meets fmt, with fmt's text TOLD by the authors' own Lean function (tested against real Go, not proved from fmt's source: count such statements apart). THE CARD IS WHAT COUNTS. Prove the row's statement (the work); the ties are given (YtebdgoikmclflaaGreatDoorTie.lean); close each card by the builder's one call (the guide's Derived/Test/ToyasCard.lean, 'card_holds'). Laid BY PROGRAM, IN A SANDBOX (cutbox-door.mjs). By AI agents, Wed Nov 11 2026. No macro, syntax, notation, axiom, sorry.
-/
import Derived.Test.YtebdgoikmclflaaGreatDoorRows
import GoSem.ClaimSeven
namespace Go.Proofs.YtebdgoikmclflaaGreatDoor
namespace Rows

/-- THE TIED CARD OF 'cutroomlaw14.EncoderBound'. -/
def encoderBoundCard : Claim7 := { stood := { row := encoderBoundRow, standIns := [], harness := (true, "4f2dbda410866a99bdfb164bae909e36667c0baa91464f566866fab65dcee785"), looks := true }, kinds := [], alts := [], laidByText := true, laidKinds := [.data], laidTests := true, laidLooks := .later }
def EncoderBoundCardSaid : Prop := Claim7.holds Tryz.pinned (.plain (OpenSpec.ofChange encoderBoundSpec)) encoderBoundCard

/-- THE SECOND FORM's CARD OF 'cutroomlaw14.EncoderBound'. -/
def encoderBoundUptoCard : Claim7 := { stood := { row := encoderBoundUptoRow, standIns := [], harness := (true, "4f2dbda410866a99bdfb164bae909e36667c0baa91464f566866fab65dcee785"), looks := true }, kinds := [], alts := [], laidByText := true, laidKinds := [.data], laidTests := true, laidLooks := .later }
def EncoderBoundUptoCardSaid : Prop := Claim7.holds Tryz.pinned (.plain (OpenSpec.upto encoderBoundSpec)) encoderBoundUptoCard
end Rows
end Go.Proofs.YtebdgoikmclflaaGreatDoor
