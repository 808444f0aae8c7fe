/-
  DERIVED. GIVEN WITH THE SEED: THE PROGRAM's TIES (one call each: nine closed facts by the kernel) AND EACH ROW's TIE, after the 31st guide's Derived/Test/Toyas{Tie, Card}.lean. No idea stands in it: it is a product of the set-up. Laid BY PROGRAM, IN A SANDBOX (cutbox-door.mjs). By AI agents, Wed Nov 11 2026. No macro, syntax, notation, axiom, sorry.
-/
import Derived.Test.YtlkkefiffjiliaaDoorRows
import Derived.LaidByTextLater
import Derived.SevenTiedAt
import Derived.LaidSub
import Derived.LaidOnce
namespace Go.Proofs.YtlkkefiffjiliaaDoor
open Go
set_option maxRecDepth 100000
theorem seatTie1 : Tryd.prog.laidByTextLater [("paxtar/ustar.fieldName", Rows.laid_paxtar_ustar_fieldName), ("paxtar/ustar.fieldMode", Rows.laid_paxtar_ustar_fieldMode), ("paxtar/ustar.fieldUid", Rows.laid_paxtar_ustar_fieldUid), ("paxtar/ustar.fieldGid", Rows.laid_paxtar_ustar_fieldGid), ("paxtar/ustar.fieldSize", Rows.laid_paxtar_ustar_fieldSize), ("paxtar/ustar.fieldMtime", Rows.laid_paxtar_ustar_fieldMtime), ("paxtar/ustar.fieldType", Rows.laid_paxtar_ustar_fieldType), ("paxtar/ustar.fieldLinkname", Rows.laid_paxtar_ustar_fieldLinkname), ("paxtar/ustar.fieldMagic", Rows.laid_paxtar_ustar_fieldMagic), ("paxtar/ustar.fieldMajor", Rows.laid_paxtar_ustar_fieldMajor), ("paxtar/ustar.fieldMinor", Rows.laid_paxtar_ustar_fieldMinor), ("paxtar/ustar.fieldPrefix", Rows.laid_paxtar_ustar_fieldPrefix)] [.data, .wider, .data, .data, .wider, .data, .wider, .data, .data, .data, .data, .data] true :=
  Program.laidByTextLater_by_one 69 8 3 (by kernel_rfl) (by kernel_rfl) (by kernel_rfl) (by kernel_rfl) (by kernel_rfl) (by kernel_rfl) (fun _ _ => by kernel_rfl)
theorem noOwnUnsafe : Tryd.pinned.checked.prog.headLifts.contains "ownunsafe" = false := by kernel_rfl
theorem tie : Tryd.prog.laidByTextLater [("paxtar/ustar.fieldName", Rows.laid_paxtar_ustar_fieldName), ("paxtar/ustar.fieldMode", Rows.laid_paxtar_ustar_fieldMode), ("paxtar/ustar.fieldUid", Rows.laid_paxtar_ustar_fieldUid), ("paxtar/ustar.fieldGid", Rows.laid_paxtar_ustar_fieldGid), ("paxtar/ustar.fieldSize", Rows.laid_paxtar_ustar_fieldSize), ("paxtar/ustar.fieldMtime", Rows.laid_paxtar_ustar_fieldMtime), ("paxtar/ustar.fieldType", Rows.laid_paxtar_ustar_fieldType), ("paxtar/ustar.fieldLinkname", Rows.laid_paxtar_ustar_fieldLinkname), ("paxtar/ustar.fieldMagic", Rows.laid_paxtar_ustar_fieldMagic), ("paxtar/ustar.fieldMajor", Rows.laid_paxtar_ustar_fieldMajor), ("paxtar/ustar.fieldMinor", Rows.laid_paxtar_ustar_fieldMinor), ("paxtar/ustar.fieldPrefix", Rows.laid_paxtar_ustar_fieldPrefix)] [.data, .wider, .data, .data, .wider, .data, .wider, .data, .data, .data, .data, .data] true :=
  Program.laidByTextLater.sub seatTie1 ["paxtar/ustar.fieldName", "paxtar/ustar.fieldMode", "paxtar/ustar.fieldUid", "paxtar/ustar.fieldGid", "paxtar/ustar.fieldSize", "paxtar/ustar.fieldMtime", "paxtar/ustar.fieldType", "paxtar/ustar.fieldLinkname", "paxtar/ustar.fieldMagic", "paxtar/ustar.fieldMajor", "paxtar/ustar.fieldMinor", "paxtar/ustar.fieldPrefix"] (by kernel_rfl) (by kernel_rfl)
theorem ustarEncodeMatchesReference_row_tie : Rows.ustarEncodeMatchesReferenceRow.laidByTextAt .later Tryd.pinned [.data, .wider, .data, .data, .wider, .data, .wider, .data, .data, .data, .data, .data] true :=
  OpenClaim.laidByTextAt_later rfl rfl tie noOwnUnsafe
theorem ustarFields_row_tie : Rows.ustarFieldsRow.laidByTextAt .later Tryd.pinned [.data, .wider, .data, .data, .wider, .data, .wider, .data, .data, .data, .data, .data] true :=
  OpenClaim.laidByTextAt_later rfl rfl tie noOwnUnsafe
theorem ustarLimits_row_tie : Rows.ustarLimitsRow.laidByTextAt .later Tryd.pinned [.data, .wider, .data, .data, .wider, .data, .wider, .data, .data, .data, .data, .data] true :=
  OpenClaim.laidByTextAt_later rfl rfl tie noOwnUnsafe
theorem ustarDecodeMatchesReference_row_tie : Rows.ustarDecodeMatchesReferenceRow.laidByTextAt .later Tryd.pinned [.data, .wider, .data, .data, .wider, .data, .wider, .data, .data, .data, .data, .data] true :=
  OpenClaim.laidByTextAt_later rfl rfl tie noOwnUnsafe
theorem ustarRoundTrip_row_tie : Rows.ustarRoundTripRow.laidByTextAt .later Tryd.pinned [.data, .wider, .data, .data, .wider, .data, .wider, .data, .data, .data, .data, .data] true :=
  OpenClaim.laidByTextAt_later rfl rfl tie noOwnUnsafe
theorem ustarRejectsOneByte_row_tie : Rows.ustarRejectsOneByteRow.laidByTextAt .later Tryd.pinned [.data, .wider, .data, .data, .wider, .data, .wider, .data, .data, .data, .data, .data] true :=
  OpenClaim.laidByTextAt_later rfl rfl tie noOwnUnsafe
theorem ustarEncodeMatchesReferenceUpto_row_tie : Rows.ustarEncodeMatchesReferenceUptoRow.laidByTextAt .later Tryd.pinned [.data, .wider, .data, .data, .wider, .data, .wider, .data, .data, .data, .data, .data] true :=
  OpenClaim.laidByTextAt_later rfl rfl tie noOwnUnsafe
theorem ustarFieldsUpto_row_tie : Rows.ustarFieldsUptoRow.laidByTextAt .later Tryd.pinned [.data, .wider, .data, .data, .wider, .data, .wider, .data, .data, .data, .data, .data] true :=
  OpenClaim.laidByTextAt_later rfl rfl tie noOwnUnsafe
theorem ustarLimitsUpto_row_tie : Rows.ustarLimitsUptoRow.laidByTextAt .later Tryd.pinned [.data, .wider, .data, .data, .wider, .data, .wider, .data, .data, .data, .data, .data] true :=
  OpenClaim.laidByTextAt_later rfl rfl tie noOwnUnsafe
theorem ustarDecodeMatchesReferenceUpto_row_tie : Rows.ustarDecodeMatchesReferenceUptoRow.laidByTextAt .later Tryd.pinned [.data, .wider, .data, .data, .wider, .data, .wider, .data, .data, .data, .data, .data] true :=
  OpenClaim.laidByTextAt_later rfl rfl tie noOwnUnsafe
theorem ustarRoundTripUpto_row_tie : Rows.ustarRoundTripUptoRow.laidByTextAt .later Tryd.pinned [.data, .wider, .data, .data, .wider, .data, .wider, .data, .data, .data, .data, .data] true :=
  OpenClaim.laidByTextAt_later rfl rfl tie noOwnUnsafe
theorem ustarRejectsOneByteUpto_row_tie : Rows.ustarRejectsOneByteUptoRow.laidByTextAt .later Tryd.pinned [.data, .wider, .data, .data, .wider, .data, .wider, .data, .data, .data, .data, .data] true :=
  OpenClaim.laidByTextAt_later rfl rfl tie noOwnUnsafe
end Go.Proofs.YtlkkefiffjiliaaDoor
