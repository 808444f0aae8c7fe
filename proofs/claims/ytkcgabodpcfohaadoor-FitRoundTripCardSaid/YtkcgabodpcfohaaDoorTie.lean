/-
  DERIVED. GIVEN WITH THE SEED: THE PROGRAM's TIES (one call each: nine closed facts by the kernel) AND EACH ROW's TIE, after the 31st guide's Derived/Test/Toyas{Tie, Card}.lean. No idea stands in it: it is a product of the set-up. Laid BY PROGRAM, IN A SANDBOX (cutbox-door.mjs). By AI agents, Wed Nov 11 2026. No macro, syntax, notation, axiom, sorry.
-/
import Derived.Test.YtkcgabodpcfohaaDoorRows
import Derived.LaidByTextLater
import Derived.SevenTiedAt
import Derived.LaidSub
import Derived.LaidOnce
namespace Go.Proofs.YtkcgabodpcfohaaDoor
open Go
set_option maxRecDepth 100000
theorem seatTie1 : Tryd.prog.laidByTextLater [("math/bits.deBruijn32tab", Rows.laid_math_bits_deBruijn32tab), ("math/bits.deBruijn64tab", Rows.laid_math_bits_deBruijn64tab), ("internal/strconv.uint64pow10", Rows.laid_internal_strconv_uint64pow10), ("strconv.ErrRange", Rows.laid_strconv_ErrRange), ("strconv.ErrSyntax", Rows.laid_strconv_ErrSyntax), ("paxtar/paxrec.keys", Rows.laid_paxtar_paxrec_keys), ("paxtar/ustar.fieldName", Rows.laid_paxtar_ustar_fieldName), ("paxtar/ustar.fieldLinkname", Rows.laid_paxtar_ustar_fieldLinkname), ("paxtar/ustar.fieldPrefix", Rows.laid_paxtar_ustar_fieldPrefix), ("paxtar/fit.types", Rows.laid_paxtar_fit_types)] [.data, .data, .data, .sentinel, .sentinel, .widerDeep, .data, .data, .data, .widerDeep] true :=
  Program.laidByTextLater_by_one 87 8 65 (by kernel_rfl) (by kernel_rfl) (by kernel_rfl) (by kernel_rfl) (by kernel_rfl) (by kernel_rfl) (fun _ _ => by kernel_rfl)
theorem noOwnUnsafe : Tryd.pinned.checked.prog.headLifts.contains "ownunsafe" = false := by kernel_rfl
theorem tie : Tryd.prog.laidByTextLater [("math/bits.deBruijn32tab", Rows.laid_math_bits_deBruijn32tab), ("math/bits.deBruijn64tab", Rows.laid_math_bits_deBruijn64tab), ("internal/strconv.uint64pow10", Rows.laid_internal_strconv_uint64pow10), ("strconv.ErrRange", Rows.laid_strconv_ErrRange), ("strconv.ErrSyntax", Rows.laid_strconv_ErrSyntax), ("paxtar/paxrec.keys", Rows.laid_paxtar_paxrec_keys)] [.data, .data, .data, .sentinel, .sentinel, .widerDeep] true :=
  Program.laidByTextLater.sub seatTie1 ["math/bits.deBruijn32tab", "math/bits.deBruijn64tab", "internal/strconv.uint64pow10", "strconv.ErrRange", "strconv.ErrSyntax", "paxtar/paxrec.keys"] (by kernel_rfl) (by kernel_rfl)
theorem paxrecConcatenation_row_tie : Rows.paxrecConcatenationRow.laidByTextAt .later Tryd.pinned [.data, .data, .data, .sentinel, .sentinel, .widerDeep] true :=
  OpenClaim.laidByTextAt_later rfl rfl tie noOwnUnsafe
theorem paxrecKeysOrdered_row_tie : Rows.paxrecKeysOrderedRow.laidByTextAt .later Tryd.pinned [.data, .data, .data, .sentinel, .sentinel, .widerDeep] true :=
  OpenClaim.laidByTextAt_later rfl rfl tie noOwnUnsafe
theorem paxrecFormatMatchesReference_row_tie : Rows.paxrecFormatMatchesReferenceRow.laidByTextAt .later Tryd.pinned [.data, .data, .data, .sentinel, .sentinel, .widerDeep] true :=
  OpenClaim.laidByTextAt_later rfl rfl tie noOwnUnsafe
theorem paxrecSizeIsLeast_row_tie : Rows.paxrecSizeIsLeastRow.laidByTextAt .later Tryd.pinned [.data, .data, .data, .sentinel, .sentinel, .widerDeep] true :=
  OpenClaim.laidByTextAt_later rfl rfl tie noOwnUnsafe
theorem paxrecParseMatchesReference_row_tie : Rows.paxrecParseMatchesReferenceRow.laidByTextAt .later Tryd.pinned [.data, .data, .data, .sentinel, .sentinel, .widerDeep] true :=
  OpenClaim.laidByTextAt_later rfl rfl tie noOwnUnsafe
theorem paxrecRoundTrip_row_tie : Rows.paxrecRoundTripRow.laidByTextAt .later Tryd.pinned [.data, .data, .data, .sentinel, .sentinel, .widerDeep] true :=
  OpenClaim.laidByTextAt_later rfl rfl tie noOwnUnsafe
theorem tie2 : Tryd.prog.laidByTextLater [("math/bits.deBruijn32tab", Rows.laid_math_bits_deBruijn32tab), ("math/bits.deBruijn64tab", Rows.laid_math_bits_deBruijn64tab), ("internal/strconv.uint64pow10", Rows.laid_internal_strconv_uint64pow10), ("strconv.ErrRange", Rows.laid_strconv_ErrRange), ("strconv.ErrSyntax", Rows.laid_strconv_ErrSyntax), ("paxtar/paxrec.keys", Rows.laid_paxtar_paxrec_keys), ("paxtar/fit.types", Rows.laid_paxtar_fit_types)] [.data, .data, .data, .sentinel, .sentinel, .widerDeep, .widerDeep] true :=
  Program.laidByTextLater.sub seatTie1 ["math/bits.deBruijn32tab", "math/bits.deBruijn64tab", "internal/strconv.uint64pow10", "strconv.ErrRange", "strconv.ErrSyntax", "paxtar/paxrec.keys", "paxtar/fit.types"] (by kernel_rfl) (by kernel_rfl)
theorem fitPathPlacement_row_tie : Rows.fitPathPlacementRow.laidByTextAt .later Tryd.pinned [.data, .data, .data, .sentinel, .sentinel, .widerDeep, .widerDeep] true :=
  OpenClaim.laidByTextAt_later rfl rfl tie2 noOwnUnsafe
theorem fitSizeLimits_row_tie : Rows.fitSizeLimitsRow.laidByTextAt .later Tryd.pinned [.data, .data, .data, .sentinel, .sentinel, .widerDeep, .widerDeep] true :=
  OpenClaim.laidByTextAt_later rfl rfl tie2 noOwnUnsafe
theorem fitPlanMatchesReference_row_tie : Rows.fitPlanMatchesReferenceRow.laidByTextAt .later Tryd.pinned [.data, .data, .data, .sentinel, .sentinel, .widerDeep, .widerDeep] true :=
  OpenClaim.laidByTextAt_later rfl rfl tie2 noOwnUnsafe
theorem fitIsInjective_row_tie : Rows.fitIsInjectiveRow.laidByTextAt .later Tryd.pinned [.data, .data, .data, .sentinel, .sentinel, .widerDeep, .widerDeep] true :=
  OpenClaim.laidByTextAt_later rfl rfl tie2 noOwnUnsafe
theorem fitMergeMatchesReference_row_tie : Rows.fitMergeMatchesReferenceRow.laidByTextAt .later Tryd.pinned [.data, .data, .data, .sentinel, .sentinel, .widerDeep, .widerDeep] true :=
  OpenClaim.laidByTextAt_later rfl rfl tie2 noOwnUnsafe
theorem fitIsMinimal_row_tie : Rows.fitIsMinimalRow.laidByTextAt .later Tryd.pinned [.data, .data, .data, .sentinel, .sentinel, .widerDeep, .widerDeep] true :=
  OpenClaim.laidByTextAt_later rfl rfl tie2 noOwnUnsafe
theorem tie3 : Tryd.prog.laidByTextLater [("math/bits.deBruijn32tab", Rows.laid_math_bits_deBruijn32tab), ("math/bits.deBruijn64tab", Rows.laid_math_bits_deBruijn64tab), ("internal/strconv.uint64pow10", Rows.laid_internal_strconv_uint64pow10), ("strconv.ErrRange", Rows.laid_strconv_ErrRange), ("strconv.ErrSyntax", Rows.laid_strconv_ErrSyntax), ("paxtar/paxrec.keys", Rows.laid_paxtar_paxrec_keys), ("paxtar/ustar.fieldName", Rows.laid_paxtar_ustar_fieldName), ("paxtar/ustar.fieldLinkname", Rows.laid_paxtar_ustar_fieldLinkname), ("paxtar/ustar.fieldPrefix", Rows.laid_paxtar_ustar_fieldPrefix), ("paxtar/fit.types", Rows.laid_paxtar_fit_types)] [.data, .data, .data, .sentinel, .sentinel, .widerDeep, .data, .data, .data, .widerDeep] true :=
  Program.laidByTextLater.sub seatTie1 ["math/bits.deBruijn32tab", "math/bits.deBruijn64tab", "internal/strconv.uint64pow10", "strconv.ErrRange", "strconv.ErrSyntax", "paxtar/paxrec.keys", "paxtar/ustar.fieldName", "paxtar/ustar.fieldLinkname", "paxtar/ustar.fieldPrefix", "paxtar/fit.types"] (by kernel_rfl) (by kernel_rfl)
theorem fitRoundTrip_row_tie : Rows.fitRoundTripRow.laidByTextAt .later Tryd.pinned [.data, .data, .data, .sentinel, .sentinel, .widerDeep, .data, .data, .data, .widerDeep] true :=
  OpenClaim.laidByTextAt_later rfl rfl tie3 noOwnUnsafe
theorem paxrecConcatenationUpto_row_tie : Rows.paxrecConcatenationUptoRow.laidByTextAt .later Tryd.pinned [.data, .data, .data, .sentinel, .sentinel, .widerDeep] true :=
  OpenClaim.laidByTextAt_later rfl rfl tie noOwnUnsafe
theorem paxrecKeysOrderedUpto_row_tie : Rows.paxrecKeysOrderedUptoRow.laidByTextAt .later Tryd.pinned [.data, .data, .data, .sentinel, .sentinel, .widerDeep] true :=
  OpenClaim.laidByTextAt_later rfl rfl tie noOwnUnsafe
theorem paxrecFormatMatchesReferenceUpto_row_tie : Rows.paxrecFormatMatchesReferenceUptoRow.laidByTextAt .later Tryd.pinned [.data, .data, .data, .sentinel, .sentinel, .widerDeep] true :=
  OpenClaim.laidByTextAt_later rfl rfl tie noOwnUnsafe
theorem paxrecSizeIsLeastUpto_row_tie : Rows.paxrecSizeIsLeastUptoRow.laidByTextAt .later Tryd.pinned [.data, .data, .data, .sentinel, .sentinel, .widerDeep] true :=
  OpenClaim.laidByTextAt_later rfl rfl tie noOwnUnsafe
theorem fitPathPlacementUpto_row_tie : Rows.fitPathPlacementUptoRow.laidByTextAt .later Tryd.pinned [.data, .data, .data, .sentinel, .sentinel, .widerDeep, .widerDeep] true :=
  OpenClaim.laidByTextAt_later rfl rfl tie2 noOwnUnsafe
theorem fitSizeLimitsUpto_row_tie : Rows.fitSizeLimitsUptoRow.laidByTextAt .later Tryd.pinned [.data, .data, .data, .sentinel, .sentinel, .widerDeep, .widerDeep] true :=
  OpenClaim.laidByTextAt_later rfl rfl tie2 noOwnUnsafe
theorem fitPlanMatchesReferenceUpto_row_tie : Rows.fitPlanMatchesReferenceUptoRow.laidByTextAt .later Tryd.pinned [.data, .data, .data, .sentinel, .sentinel, .widerDeep, .widerDeep] true :=
  OpenClaim.laidByTextAt_later rfl rfl tie2 noOwnUnsafe
theorem fitIsInjectiveUpto_row_tie : Rows.fitIsInjectiveUptoRow.laidByTextAt .later Tryd.pinned [.data, .data, .data, .sentinel, .sentinel, .widerDeep, .widerDeep] true :=
  OpenClaim.laidByTextAt_later rfl rfl tie2 noOwnUnsafe
theorem fitMergeMatchesReferenceUpto_row_tie : Rows.fitMergeMatchesReferenceUptoRow.laidByTextAt .later Tryd.pinned [.data, .data, .data, .sentinel, .sentinel, .widerDeep, .widerDeep] true :=
  OpenClaim.laidByTextAt_later rfl rfl tie2 noOwnUnsafe
theorem fitIsMinimalUpto_row_tie : Rows.fitIsMinimalUptoRow.laidByTextAt .later Tryd.pinned [.data, .data, .data, .sentinel, .sentinel, .widerDeep, .widerDeep] true :=
  OpenClaim.laidByTextAt_later rfl rfl tie2 noOwnUnsafe
theorem paxrecParseMatchesReferenceUpto_row_tie : Rows.paxrecParseMatchesReferenceUptoRow.laidByTextAt .later Tryd.pinned [.data, .data, .data, .sentinel, .sentinel, .widerDeep] true :=
  OpenClaim.laidByTextAt_later rfl rfl tie noOwnUnsafe
theorem paxrecRoundTripUpto_row_tie : Rows.paxrecRoundTripUptoRow.laidByTextAt .later Tryd.pinned [.data, .data, .data, .sentinel, .sentinel, .widerDeep] true :=
  OpenClaim.laidByTextAt_later rfl rfl tie noOwnUnsafe
theorem fitRoundTripUpto_row_tie : Rows.fitRoundTripUptoRow.laidByTextAt .later Tryd.pinned [.data, .data, .data, .sentinel, .sentinel, .widerDeep, .data, .data, .data, .widerDeep] true :=
  OpenClaim.laidByTextAt_later rfl rfl tie3 noOwnUnsafe
end Go.Proofs.YtkcgabodpcfohaaDoor
