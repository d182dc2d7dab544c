/-
  DERIVED. GIVEN WITH THE SEED: THE CARDS: each row of YtldmjbgplgoedaaGreatDoorRows.lean that lists a variable, with what it lists TIED to the program's text (the seventh form; the later family's looks); each row that meets fmt, with fmt's text TOLD by the authors' own Lean function (tested against real Go, not proved from fmt's source: count such statements apart). THE CARD IS WHAT COUNTS. Prove the row's statement (the work); the ties are given (YtldmjbgplgoedaaGreatDoorTie.lean); close each card by the builder's one call (the guide's Derived/Test/ToyasCard.lean, 'card_holds'). Laid BY PROGRAM, IN A SANDBOX (cutbox-door.mjs). By AI agents, Wed Nov 11 2026. No macro, syntax, notation, axiom, sorry.
-/
import Derived.Test.YtldmjbgplgoedaaGreatDoorRows
import GoSem.ClaimSeven
namespace Go.Proofs.YtldmjbgplgoedaaGreatDoor
namespace Rows

/-- THE TIED CARD OF 'cutroomlaw14.EncoderPicture'. -/
def encoderPictureCard : Claim7 := { stood := { row := encoderPictureRow, standIns := [], harness := (true, "5b3e5f33ffaf00f16aeb6b8456e7fa3c75639b46f363b2864f5ef6b8fe09f81b"), looks := true }, kinds := [], alts := [], laidByText := true, laidKinds := [.data], laidTests := true, laidLooks := .later }
def EncoderPictureCardSaid : Prop := Claim7.holds Tryz.pinned (.plain (OpenSpec.ofChange encoderPictureSpec)) encoderPictureCard

/-- THE TIED CARD OF 'cutroomlaw14.EncoderErrors'. -/
def encoderErrorsCard : Claim7 := { stood := { row := encoderErrorsRow, standIns := [], harness := (true, "5b3e5f33ffaf00f16aeb6b8456e7fa3c75639b46f363b2864f5ef6b8fe09f81b"), looks := true }, kinds := [], alts := [], laidByText := true, laidKinds := [.data, .data], laidTests := true, laidLooks := .later }
def EncoderErrorsCardSaid : Prop := Claim7.holds Tryz.pinned (.plain (OpenSpec.ofChange encoderErrorsSpec)) encoderErrorsCard

/-- THE TIED CARD OF 'cutroomlaw14.EncoderStreams'. -/
def encoderStreamsCard : Claim7 := { stood := { row := encoderStreamsRow, standIns := [], harness := (true, "5b3e5f33ffaf00f16aeb6b8456e7fa3c75639b46f363b2864f5ef6b8fe09f81b"), looks := true }, kinds := [], alts := [], laidByText := true, laidKinds := [.data, .data], laidTests := true, laidLooks := .later }
def EncoderStreamsCardSaid : Prop := Claim7.holds Tryz.pinned (.plain (OpenSpec.ofChange encoderStreamsSpec)) encoderStreamsCard

/-- THE TIED CARD OF 'cutroomlaw14.EncoderDecodes'. -/
def encoderDecodesCard : Claim7 := { stood := { row := encoderDecodesRow, standIns := [], harness := (true, "5b3e5f33ffaf00f16aeb6b8456e7fa3c75639b46f363b2864f5ef6b8fe09f81b"), looks := true }, kinds := [], alts := [], laidByText := true, laidKinds := [.data, .data], laidTests := true, laidLooks := .later }
def EncoderDecodesCardSaid : Prop := Claim7.holds Tryz.pinned (.plain (OpenSpec.ofChange encoderDecodesSpec)) encoderDecodesCard

/-- THE TIED CARD OF 'cutroomlaw14.EncoderRepeats'. -/
def encoderRepeatsCard : Claim7 := { stood := { row := encoderRepeatsRow, standIns := [], harness := (true, "5b3e5f33ffaf00f16aeb6b8456e7fa3c75639b46f363b2864f5ef6b8fe09f81b"), looks := true }, kinds := [], alts := [], laidByText := true, laidKinds := [.data, .data], laidTests := true, laidLooks := .later }
def EncoderRepeatsCardSaid : Prop := Claim7.holds Tryz.pinned (.plain (OpenSpec.ofChange encoderRepeatsSpec)) encoderRepeatsCard

/-- THE TIED CARD OF 'cutroomlaw14.EncoderFits'. -/
def encoderFitsCard : Claim7 := { stood := { row := encoderFitsRow, standIns := [], harness := (true, "5b3e5f33ffaf00f16aeb6b8456e7fa3c75639b46f363b2864f5ef6b8fe09f81b"), looks := true }, kinds := [], alts := [], laidByText := true, laidKinds := [.data, .data], laidTests := true, laidLooks := .later }
def EncoderFitsCardSaid : Prop := Claim7.holds Tryz.pinned (.plain (OpenSpec.ofChange encoderFitsSpec)) encoderFitsCard

/-- THE SECOND FORM's CARD OF 'cutroomlaw14.EncoderPicture'. -/
def encoderPictureUptoCard : Claim7 := { stood := { row := encoderPictureUptoRow, standIns := [], harness := (true, "5b3e5f33ffaf00f16aeb6b8456e7fa3c75639b46f363b2864f5ef6b8fe09f81b"), looks := true }, kinds := [], alts := [], laidByText := true, laidKinds := [.data], laidTests := true, laidLooks := .later }
def EncoderPictureUptoCardSaid : Prop := Claim7.holds Tryz.pinned (.plain (OpenSpec.upto encoderPictureSpec)) encoderPictureUptoCard

/-- THE SECOND FORM's CARD OF 'cutroomlaw14.EncoderErrors'. -/
def encoderErrorsUptoCard : Claim7 := { stood := { row := encoderErrorsUptoRow, standIns := [], harness := (true, "5b3e5f33ffaf00f16aeb6b8456e7fa3c75639b46f363b2864f5ef6b8fe09f81b"), looks := true }, kinds := [], alts := [], laidByText := true, laidKinds := [.data, .data], laidTests := true, laidLooks := .later }
def EncoderErrorsUptoCardSaid : Prop := Claim7.holds Tryz.pinned (.plain (OpenSpec.upto encoderErrorsSpec)) encoderErrorsUptoCard

/-- THE SECOND FORM's CARD OF 'cutroomlaw14.EncoderStreams'. -/
def encoderStreamsUptoCard : Claim7 := { stood := { row := encoderStreamsUptoRow, standIns := [], harness := (true, "5b3e5f33ffaf00f16aeb6b8456e7fa3c75639b46f363b2864f5ef6b8fe09f81b"), looks := true }, kinds := [], alts := [], laidByText := true, laidKinds := [.data, .data], laidTests := true, laidLooks := .later }
def EncoderStreamsUptoCardSaid : Prop := Claim7.holds Tryz.pinned (.plain (OpenSpec.upto encoderStreamsSpec)) encoderStreamsUptoCard

/-- THE SECOND FORM's CARD OF 'cutroomlaw14.EncoderDecodes'. -/
def encoderDecodesUptoCard : Claim7 := { stood := { row := encoderDecodesUptoRow, standIns := [], harness := (true, "5b3e5f33ffaf00f16aeb6b8456e7fa3c75639b46f363b2864f5ef6b8fe09f81b"), looks := true }, kinds := [], alts := [], laidByText := true, laidKinds := [.data, .data], laidTests := true, laidLooks := .later }
def EncoderDecodesUptoCardSaid : Prop := Claim7.holds Tryz.pinned (.plain (OpenSpec.upto encoderDecodesSpec)) encoderDecodesUptoCard

/-- THE SECOND FORM's CARD OF 'cutroomlaw14.EncoderRepeats'. -/
def encoderRepeatsUptoCard : Claim7 := { stood := { row := encoderRepeatsUptoRow, standIns := [], harness := (true, "5b3e5f33ffaf00f16aeb6b8456e7fa3c75639b46f363b2864f5ef6b8fe09f81b"), looks := true }, kinds := [], alts := [], laidByText := true, laidKinds := [.data, .data], laidTests := true, laidLooks := .later }
def EncoderRepeatsUptoCardSaid : Prop := Claim7.holds Tryz.pinned (.plain (OpenSpec.upto encoderRepeatsSpec)) encoderRepeatsUptoCard

/-- THE SECOND FORM's CARD OF 'cutroomlaw14.EncoderFits'. -/
def encoderFitsUptoCard : Claim7 := { stood := { row := encoderFitsUptoRow, standIns := [], harness := (true, "5b3e5f33ffaf00f16aeb6b8456e7fa3c75639b46f363b2864f5ef6b8fe09f81b"), looks := true }, kinds := [], alts := [], laidByText := true, laidKinds := [.data, .data], laidTests := true, laidLooks := .later }
def EncoderFitsUptoCardSaid : Prop := Claim7.holds Tryz.pinned (.plain (OpenSpec.upto encoderFitsSpec)) encoderFitsUptoCard
end Rows
end Go.Proofs.YtldmjbgplgoedaaGreatDoor
