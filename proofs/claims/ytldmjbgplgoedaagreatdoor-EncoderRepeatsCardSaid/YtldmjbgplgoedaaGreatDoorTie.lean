/-
  DERIVED. GIVEN WITH THE SEED: THE PROGRAM's TIES (one call each: nine closed facts by the kernel) AND EACH ROW's TIE, after the 31st guide's Derived/Test/Toyas{Tie, Card}.lean. No idea stands in it: it is a product of the set-up. Laid BY PROGRAM, IN A SANDBOX (cutbox-door.mjs). By AI agents, Wed Nov 11 2026. No macro, syntax, notation, axiom, sorry.
-/
import Derived.Test.YtldmjbgplgoedaaGreatDoorRows
import Derived.LaidByTextLater
import Derived.SevenTiedAt
import Derived.LaidSub
import Derived.LaidOnce
namespace Go.Proofs.YtldmjbgplgoedaaGreatDoor
open Go
set_option maxRecDepth 100000
theorem seatTie1 : Tryz.prog.laidByTextLater [("cutroom/quant.alternateScan", Rows.laid_cutroom_quant_alternateScan), ("cutroom/quant.defaultIntra", Rows.laid_cutroom_quant_defaultIntra)] [.data, .data] true :=
  Program.laidByTextLater_by_one 19 8 65 (by kernel_rfl) (by kernel_rfl) (by kernel_rfl) (by kernel_rfl) (by kernel_rfl) (by kernel_rfl) (fun _ _ => by kernel_rfl)
theorem noOwnUnsafe : Tryz.pinned.checked.prog.headLifts.contains "ownunsafe" = false := by kernel_rfl
theorem tie : Tryz.prog.laidByTextLater [("cutroom/quant.alternateScan", Rows.laid_cutroom_quant_alternateScan)] [.data] true :=
  Program.laidByTextLater.sub seatTie1 ["cutroom/quant.alternateScan"] (by kernel_rfl) (by kernel_rfl)
theorem encoderPicture_row_tie : Rows.encoderPictureRow.laidByTextAt .later Tryz.pinned [.data] true :=
  OpenClaim.laidByTextAt_later rfl rfl tie noOwnUnsafe
theorem tie2 : Tryz.prog.laidByTextLater [("cutroom/quant.alternateScan", Rows.laid_cutroom_quant_alternateScan), ("cutroom/quant.defaultIntra", Rows.laid_cutroom_quant_defaultIntra)] [.data, .data] true :=
  Program.laidByTextLater.sub seatTie1 ["cutroom/quant.alternateScan", "cutroom/quant.defaultIntra"] (by kernel_rfl) (by kernel_rfl)
theorem encoderErrors_row_tie : Rows.encoderErrorsRow.laidByTextAt .later Tryz.pinned [.data, .data] true :=
  OpenClaim.laidByTextAt_later rfl rfl tie2 noOwnUnsafe
theorem encoderStreams_row_tie : Rows.encoderStreamsRow.laidByTextAt .later Tryz.pinned [.data, .data] true :=
  OpenClaim.laidByTextAt_later rfl rfl tie2 noOwnUnsafe
theorem encoderDecodes_row_tie : Rows.encoderDecodesRow.laidByTextAt .later Tryz.pinned [.data, .data] true :=
  OpenClaim.laidByTextAt_later rfl rfl tie2 noOwnUnsafe
theorem encoderRepeats_row_tie : Rows.encoderRepeatsRow.laidByTextAt .later Tryz.pinned [.data, .data] true :=
  OpenClaim.laidByTextAt_later rfl rfl tie2 noOwnUnsafe
theorem encoderFits_row_tie : Rows.encoderFitsRow.laidByTextAt .later Tryz.pinned [.data, .data] true :=
  OpenClaim.laidByTextAt_later rfl rfl tie2 noOwnUnsafe
theorem encoderPictureUpto_row_tie : Rows.encoderPictureUptoRow.laidByTextAt .later Tryz.pinned [.data] true :=
  OpenClaim.laidByTextAt_later rfl rfl tie noOwnUnsafe
theorem encoderErrorsUpto_row_tie : Rows.encoderErrorsUptoRow.laidByTextAt .later Tryz.pinned [.data, .data] true :=
  OpenClaim.laidByTextAt_later rfl rfl tie2 noOwnUnsafe
theorem encoderStreamsUpto_row_tie : Rows.encoderStreamsUptoRow.laidByTextAt .later Tryz.pinned [.data, .data] true :=
  OpenClaim.laidByTextAt_later rfl rfl tie2 noOwnUnsafe
theorem encoderDecodesUpto_row_tie : Rows.encoderDecodesUptoRow.laidByTextAt .later Tryz.pinned [.data, .data] true :=
  OpenClaim.laidByTextAt_later rfl rfl tie2 noOwnUnsafe
theorem encoderRepeatsUpto_row_tie : Rows.encoderRepeatsUptoRow.laidByTextAt .later Tryz.pinned [.data, .data] true :=
  OpenClaim.laidByTextAt_later rfl rfl tie2 noOwnUnsafe
theorem encoderFitsUpto_row_tie : Rows.encoderFitsUptoRow.laidByTextAt .later Tryz.pinned [.data, .data] true :=
  OpenClaim.laidByTextAt_later rfl rfl tie2 noOwnUnsafe
end Go.Proofs.YtldmjbgplgoedaaGreatDoor
