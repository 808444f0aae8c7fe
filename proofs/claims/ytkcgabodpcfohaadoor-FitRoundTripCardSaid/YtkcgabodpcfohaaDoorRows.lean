/-
  NARROWER THAN 'FOR EVERY INPUT', by the rows' own cells (each row's printed sentence says how): PaxrecConcatenation: laid · PaxrecKeysOrdered: laid · PaxrecFormatMatchesReference: laid · PaxrecSizeIsLeast: laid · FitPathPlacement: laid · FitSizeLimits: laid · FitPlanMatchesReference: laid · FitIsInjective: laid · FitMergeMatchesReference: laid · FitIsMinimal: laid · PaxrecParseMatchesReference: laid · PaxrecRoundTrip: laid · FitRoundTrip: laid.
  DERIVED. THE GIVEN ROWS OF THIS SEAT. 13 by the template 'for every input the law returns true; each argument reads behind the call as it read before'; 0 by the template 'total and deterministic' (their statements: YtkcgabodpcfohaaDoorTotals.lean).
  GIVEN WITH THE SEED: the statements are not yours to turn. If you find one false, say at which input.
  Laid BY PROGRAM, IN A SANDBOX (cutbox-rows.mjs): the forced cells as the released guide's own fill.sh prints them over the translation f066de334bac49db… (all of the seat's roots in one cut). By AI agents, Wed Nov 11 2026. No macro, syntax, notation, axiom, sorry.
-/
import Derived.Test.YtkcgabodpcfohaaDoorChecked
import GoSem.Claim
import GoSem.ClaimJoined
import GoSem.ClaimMapViews
import Derived.JoinedTies
import Derived.KernelRfl
namespace Go.Proofs.YtkcgabodpcfohaaDoor
/- THE CELL 'sum', in the pinned program and in every row, IS THE sha256 OF THE DUMP (.gsa) THAT YtkcgabodpcfohaaDoorProg.lean LOADS. Nothing in Lean hashes anything: it is a label: what it is worth is what the hold of that sum in a sandbox is worth. -/
noncomputable def Tryd.pinned : Pinned := { name := "ytkcgabodpcfohaadoor", sum := "f066de334bac49dbb8adfe6de5b4662435ea01ddc8203414e97b454835aa6078", checked := Tryd.checked }
namespace Rows
def none {H : Type} : Left H := { results := [], args := [] }

/- WHAT THE LISTED PACKAGE-LEVEL VARIABLES READ AS WHEN THE CALL BEGINS. Each datum BY PROGRAM (the guide's laid-datum.mjs) off the statement by which the dump's own 'gosem.cut.vars' lays the variable. In a bare row this is a premise. The card (YtkcgabodpcfohaaDoorCards.lean) ties it to the program's text. -/
def laid_math_bits_deBruijn32tab {H : Type} : DataW H := .agg [.lit (.int .u8 0), .lit (.int .u8 1), .lit (.int .u8 28), .lit (.int .u8 2), .lit (.int .u8 29), .lit (.int .u8 14), .lit (.int .u8 24), .lit (.int .u8 3), .lit (.int .u8 30), .lit (.int .u8 22), .lit (.int .u8 20), .lit (.int .u8 15), .lit (.int .u8 25), .lit (.int .u8 17), .lit (.int .u8 4), .lit (.int .u8 8), .lit (.int .u8 31), .lit (.int .u8 27), .lit (.int .u8 13), .lit (.int .u8 23), .lit (.int .u8 21), .lit (.int .u8 19), .lit (.int .u8 16), .lit (.int .u8 7), .lit (.int .u8 26), .lit (.int .u8 12), .lit (.int .u8 18), .lit (.int .u8 6), .lit (.int .u8 11), .lit (.int .u8 5), .lit (.int .u8 10), .lit (.int .u8 9)]
def laid_math_bits_deBruijn64tab {H : Type} : DataW H := .agg [.lit (.int .u8 0), .lit (.int .u8 1), .lit (.int .u8 56), .lit (.int .u8 2), .lit (.int .u8 57), .lit (.int .u8 49), .lit (.int .u8 28), .lit (.int .u8 3), .lit (.int .u8 61), .lit (.int .u8 58), .lit (.int .u8 42), .lit (.int .u8 50), .lit (.int .u8 38), .lit (.int .u8 29), .lit (.int .u8 17), .lit (.int .u8 4), .lit (.int .u8 62), .lit (.int .u8 47), .lit (.int .u8 59), .lit (.int .u8 36), .lit (.int .u8 45), .lit (.int .u8 43), .lit (.int .u8 51), .lit (.int .u8 22), .lit (.int .u8 53), .lit (.int .u8 39), .lit (.int .u8 33), .lit (.int .u8 30), .lit (.int .u8 24), .lit (.int .u8 18), .lit (.int .u8 12), .lit (.int .u8 5), .lit (.int .u8 63), .lit (.int .u8 55), .lit (.int .u8 48), .lit (.int .u8 27), .lit (.int .u8 60), .lit (.int .u8 41), .lit (.int .u8 37), .lit (.int .u8 16), .lit (.int .u8 46), .lit (.int .u8 35), .lit (.int .u8 44), .lit (.int .u8 21), .lit (.int .u8 52), .lit (.int .u8 32), .lit (.int .u8 23), .lit (.int .u8 11), .lit (.int .u8 54), .lit (.int .u8 26), .lit (.int .u8 40), .lit (.int .u8 15), .lit (.int .u8 34), .lit (.int .u8 20), .lit (.int .u8 31), .lit (.int .u8 10), .lit (.int .u8 25), .lit (.int .u8 14), .lit (.int .u8 19), .lit (.int .u8 9), .lit (.int .u8 13), .lit (.int .u8 8), .lit (.int .u8 7), .lit (.int .u8 6)]
def laid_internal_strconv_uint64pow10 {H : Type} : DataW H := .agg [.lit (.int .u64 1), .lit (.int .u64 10), .lit (.int .u64 100), .lit (.int .u64 1000), .lit (.int .u64 10000), .lit (.int .u64 100000), .lit (.int .u64 1000000), .lit (.int .u64 10000000), .lit (.int .u64 100000000), .lit (.int .u64 1000000000), .lit (.int .u64 10000000000), .lit (.int .u64 100000000000), .lit (.int .u64 1000000000000), .lit (.int .u64 10000000000000), .lit (.int .u64 100000000000000), .lit (.int .u64 1000000000000000), .lit (.int .u64 10000000000000000), .lit (.int .u64 100000000000000000), .lit (.int .u64 1000000000000000000), .lit (.int .u64 10000000000000000000)]
def laid_strconv_ErrRange {H : Type} : DataW H := .iface "*errors.errorString" (.ptr (.agg [.lit (.string [118, 97, 108, 117, 101, 32, 111, 117, 116, 32, 111, 102, 32, 114, 97, 110, 103, 101])]))
def laid_strconv_ErrSyntax {H : Type} : DataW H := .iface "*errors.errorString" (.ptr (.agg [.lit (.string [105, 110, 118, 97, 108, 105, 100, 32, 115, 121, 110, 116, 97, 120])]))
def laid_paxtar_paxrec_keys {H : Type} : DataW H := .agg [.lit (.string [108, 105, 110, 107, 112, 97, 116, 104]), .lit (.string [112, 97, 116, 104]), .lit (.string [115, 105, 122, 101])]
def laid_paxtar_fit_types {H : Type} : DataW H := .agg [.lit (.int .u8 53), .lit (.int .u8 48), .lit (.int .u8 50), .lit (.int .u8 49)]
def laid_paxtar_ustar_fieldName {H : Type} : DataW H := .agg [.lit (.int .i64 0), .lit (.int .i64 100)]
def laid_paxtar_ustar_fieldLinkname {H : Type} : DataW H := .agg [.lit (.int .i64 157), .lit (.int .i64 100)]
def laid_paxtar_ustar_fieldPrefix {H : Type} : DataW H := .agg [.lit (.int .i64 345), .lit (.int .i64 155)]

/-- 'paxtarlaw09.PaxrecConcatenation': WHATEVER THE INPUT: true; the input reads as it did. -/
def paxrecConcatenationSpec : ChangeSpec := { name := "paxrecConcatenation", fn := fun _ => fun
  | [d] => { results := [.lit (.bool true)], args := [d] }
  | _ => none }
def paxrecConcatenationRow : OpenClaim := { program := "ytkcgabodpcfohaadoor", sum := "f066de334bac49dbb8adfe6de5b4662435ea01ddc8203414e97b454835aa6078", func := "paxtar/paxtarlaw09.PaxrecConcatenation", spec := "paxrecConcatenation", inPlace := ["internal/bytealg.IndexByteString"], named := ["paxtar/paxrec.keys", "strconv.ErrSyntax", "strconv.ErrRange", "internal/strconv.uint64pow10", "math/bits.deBruijn32tab", "math/bits.deBruijn64tab"], apart := false, laid := [("math/bits.deBruijn32tab", laid_math_bits_deBruijn32tab), ("math/bits.deBruijn64tab", laid_math_bits_deBruijn64tab), ("internal/strconv.uint64pow10", laid_internal_strconv_uint64pow10), ("strconv.ErrRange", laid_strconv_ErrRange), ("strconv.ErrSyntax", laid_strconv_ErrSyntax), ("paxtar/paxrec.keys", laid_paxtar_paxrec_keys)] }
def PaxrecConcatenationSaid : Prop := paxrecConcatenationRow.holds Tryd.pinned (OpenSpec.ofChange paxrecConcatenationSpec)

/-- ITS FALSE NEIGHBOUR: 'it returns false'. Refute it at one input. -/
def paxrecConcatenationWrong : ChangeSpec := { name := "paxrecConcatenation", fn := fun _ => fun
  | [d] => { results := [.lit (.bool false)], args := [d] }
  | _ => none }
def PaxrecConcatenationWrongFalsely : Prop := paxrecConcatenationRow.holds Tryd.pinned (OpenSpec.ofChange paxrecConcatenationWrong)

/-- 'paxtarlaw09.PaxrecKeysOrdered': WHATEVER THE INPUT: true; the input reads as it did. -/
def paxrecKeysOrderedSpec : ChangeSpec := { name := "paxrecKeysOrdered", fn := fun _ => fun
  | [d1, d2, d3] => { results := [.lit (.bool true)], args := [d1, d2, d3] }
  | _ => none }
def paxrecKeysOrderedRow : OpenClaim := { program := "ytkcgabodpcfohaadoor", sum := "f066de334bac49dbb8adfe6de5b4662435ea01ddc8203414e97b454835aa6078", func := "paxtar/paxtarlaw09.PaxrecKeysOrdered", spec := "paxrecKeysOrdered", inPlace := ["internal/bytealg.IndexByteString"], named := ["paxtar/paxrec.keys", "strconv.ErrSyntax", "strconv.ErrRange", "internal/strconv.uint64pow10", "math/bits.deBruijn32tab", "math/bits.deBruijn64tab"], apart := false, laid := [("math/bits.deBruijn32tab", laid_math_bits_deBruijn32tab), ("math/bits.deBruijn64tab", laid_math_bits_deBruijn64tab), ("internal/strconv.uint64pow10", laid_internal_strconv_uint64pow10), ("strconv.ErrRange", laid_strconv_ErrRange), ("strconv.ErrSyntax", laid_strconv_ErrSyntax), ("paxtar/paxrec.keys", laid_paxtar_paxrec_keys)] }
def PaxrecKeysOrderedSaid : Prop := paxrecKeysOrderedRow.holds Tryd.pinned (OpenSpec.ofChange paxrecKeysOrderedSpec)

/-- ITS FALSE NEIGHBOUR: 'it returns false'. Refute it at one input. -/
def paxrecKeysOrderedWrong : ChangeSpec := { name := "paxrecKeysOrdered", fn := fun _ => fun
  | [d1, d2, d3] => { results := [.lit (.bool false)], args := [d1, d2, d3] }
  | _ => none }
def PaxrecKeysOrderedWrongFalsely : Prop := paxrecKeysOrderedRow.holds Tryd.pinned (OpenSpec.ofChange paxrecKeysOrderedWrong)

/-- 'paxtarlaw09.PaxrecFormatMatchesReference': WHATEVER THE INPUT: true; the input reads as it did. -/
def paxrecFormatMatchesReferenceSpec : ChangeSpec := { name := "paxrecFormatMatchesReference", fn := fun _ => fun
  | [d] => { results := [.lit (.bool true)], args := [d] }
  | _ => none }
def paxrecFormatMatchesReferenceRow : OpenClaim := { program := "ytkcgabodpcfohaadoor", sum := "f066de334bac49dbb8adfe6de5b4662435ea01ddc8203414e97b454835aa6078", func := "paxtar/paxtarlaw09.PaxrecFormatMatchesReference", spec := "paxrecFormatMatchesReference", inPlace := ["internal/bytealg.IndexByteString"], named := ["paxtar/paxrec.keys", "strconv.ErrSyntax", "strconv.ErrRange", "internal/strconv.uint64pow10", "math/bits.deBruijn32tab", "math/bits.deBruijn64tab"], apart := false, laid := [("math/bits.deBruijn32tab", laid_math_bits_deBruijn32tab), ("math/bits.deBruijn64tab", laid_math_bits_deBruijn64tab), ("internal/strconv.uint64pow10", laid_internal_strconv_uint64pow10), ("strconv.ErrRange", laid_strconv_ErrRange), ("strconv.ErrSyntax", laid_strconv_ErrSyntax), ("paxtar/paxrec.keys", laid_paxtar_paxrec_keys)] }
def PaxrecFormatMatchesReferenceSaid : Prop := paxrecFormatMatchesReferenceRow.holds Tryd.pinned (OpenSpec.ofChange paxrecFormatMatchesReferenceSpec)

/-- ITS FALSE NEIGHBOUR: 'it returns false'. Refute it at one input. -/
def paxrecFormatMatchesReferenceWrong : ChangeSpec := { name := "paxrecFormatMatchesReference", fn := fun _ => fun
  | [d] => { results := [.lit (.bool false)], args := [d] }
  | _ => none }
def PaxrecFormatMatchesReferenceWrongFalsely : Prop := paxrecFormatMatchesReferenceRow.holds Tryd.pinned (OpenSpec.ofChange paxrecFormatMatchesReferenceWrong)

/-- 'paxtarlaw09.PaxrecSizeIsLeast': WHATEVER THE INPUT: true; the input reads as it did. -/
def paxrecSizeIsLeastSpec : ChangeSpec := { name := "paxrecSizeIsLeast", fn := fun _ => fun
  | [d1, d2] => { results := [.lit (.bool true)], args := [d1, d2] }
  | _ => none }
def paxrecSizeIsLeastRow : OpenClaim := { program := "ytkcgabodpcfohaadoor", sum := "f066de334bac49dbb8adfe6de5b4662435ea01ddc8203414e97b454835aa6078", func := "paxtar/paxtarlaw09.PaxrecSizeIsLeast", spec := "paxrecSizeIsLeast", inPlace := ["internal/abi.NoEscape", "internal/bytealg.MakeNoZero", "internal/bytealg.IndexByteString"], named := ["internal/strconv.uint64pow10", "math/bits.deBruijn32tab", "math/bits.deBruijn64tab", "paxtar/paxrec.keys", "strconv.ErrSyntax", "strconv.ErrRange"], apart := false, laid := [("math/bits.deBruijn32tab", laid_math_bits_deBruijn32tab), ("math/bits.deBruijn64tab", laid_math_bits_deBruijn64tab), ("internal/strconv.uint64pow10", laid_internal_strconv_uint64pow10), ("strconv.ErrRange", laid_strconv_ErrRange), ("strconv.ErrSyntax", laid_strconv_ErrSyntax), ("paxtar/paxrec.keys", laid_paxtar_paxrec_keys)] }
def PaxrecSizeIsLeastSaid : Prop := paxrecSizeIsLeastRow.holds Tryd.pinned (OpenSpec.ofChange paxrecSizeIsLeastSpec)

/-- ITS FALSE NEIGHBOUR: 'it returns false'. Refute it at one input. -/
def paxrecSizeIsLeastWrong : ChangeSpec := { name := "paxrecSizeIsLeast", fn := fun _ => fun
  | [d1, d2] => { results := [.lit (.bool false)], args := [d1, d2] }
  | _ => none }
def PaxrecSizeIsLeastWrongFalsely : Prop := paxrecSizeIsLeastRow.holds Tryd.pinned (OpenSpec.ofChange paxrecSizeIsLeastWrong)

/-- 'paxtarlaw10.FitPathPlacement': WHATEVER THE INPUT: true; the input reads as it did. -/
def fitPathPlacementSpec : ChangeSpec := { name := "fitPathPlacement", fn := fun _ => fun
  | [d1, d2] => { results := [.lit (.bool true)], args := [d1, d2] }
  | _ => none }
def fitPathPlacementRow : OpenClaim := { program := "ytkcgabodpcfohaadoor", sum := "f066de334bac49dbb8adfe6de5b4662435ea01ddc8203414e97b454835aa6078", func := "paxtar/paxtarlaw10.FitPathPlacement", spec := "fitPathPlacement", inPlace := ["internal/bytealg.IndexByteString", "internal/bytealg.IndexString"], unfollowed := true, recurses := true, named := ["paxtar/fit.types", "internal/bytealg.MaxLen", "paxtar/paxrec.keys", "strconv.ErrSyntax", "strconv.ErrRange", "internal/strconv.uint64pow10", "math/bits.deBruijn32tab", "math/bits.deBruijn64tab"], apart := false, laid := [("math/bits.deBruijn32tab", laid_math_bits_deBruijn32tab), ("math/bits.deBruijn64tab", laid_math_bits_deBruijn64tab), ("internal/strconv.uint64pow10", laid_internal_strconv_uint64pow10), ("strconv.ErrRange", laid_strconv_ErrRange), ("strconv.ErrSyntax", laid_strconv_ErrSyntax), ("paxtar/paxrec.keys", laid_paxtar_paxrec_keys), ("paxtar/fit.types", laid_paxtar_fit_types)] }
def FitPathPlacementSaid : Prop := fitPathPlacementRow.holds Tryd.pinned (OpenSpec.ofChange fitPathPlacementSpec)

/-- ITS FALSE NEIGHBOUR: 'it returns false'. Refute it at one input. -/
def fitPathPlacementWrong : ChangeSpec := { name := "fitPathPlacement", fn := fun _ => fun
  | [d1, d2] => { results := [.lit (.bool false)], args := [d1, d2] }
  | _ => none }
def FitPathPlacementWrongFalsely : Prop := fitPathPlacementRow.holds Tryd.pinned (OpenSpec.ofChange fitPathPlacementWrong)

/-- 'paxtarlaw10.FitSizeLimits': WHATEVER THE INPUT: true; the input reads as it did. -/
def fitSizeLimitsSpec : ChangeSpec := { name := "fitSizeLimits", fn := fun _ => fun
  | [d] => { results := [.lit (.bool true)], args := [d] }
  | _ => none }
def fitSizeLimitsRow : OpenClaim := { program := "ytkcgabodpcfohaadoor", sum := "f066de334bac49dbb8adfe6de5b4662435ea01ddc8203414e97b454835aa6078", func := "paxtar/paxtarlaw10.FitSizeLimits", spec := "fitSizeLimits", inPlace := ["internal/bytealg.IndexByteString", "internal/bytealg.IndexString"], unfollowed := true, recurses := true, named := ["paxtar/fit.types", "internal/bytealg.MaxLen", "paxtar/paxrec.keys", "strconv.ErrSyntax", "strconv.ErrRange", "internal/strconv.uint64pow10", "math/bits.deBruijn32tab", "math/bits.deBruijn64tab"], apart := false, laid := [("math/bits.deBruijn32tab", laid_math_bits_deBruijn32tab), ("math/bits.deBruijn64tab", laid_math_bits_deBruijn64tab), ("internal/strconv.uint64pow10", laid_internal_strconv_uint64pow10), ("strconv.ErrRange", laid_strconv_ErrRange), ("strconv.ErrSyntax", laid_strconv_ErrSyntax), ("paxtar/paxrec.keys", laid_paxtar_paxrec_keys), ("paxtar/fit.types", laid_paxtar_fit_types)] }
def FitSizeLimitsSaid : Prop := fitSizeLimitsRow.holds Tryd.pinned (OpenSpec.ofChange fitSizeLimitsSpec)

/-- ITS FALSE NEIGHBOUR: 'it returns false'. Refute it at one input. -/
def fitSizeLimitsWrong : ChangeSpec := { name := "fitSizeLimits", fn := fun _ => fun
  | [d] => { results := [.lit (.bool false)], args := [d] }
  | _ => none }
def FitSizeLimitsWrongFalsely : Prop := fitSizeLimitsRow.holds Tryd.pinned (OpenSpec.ofChange fitSizeLimitsWrong)

/-- 'paxtarlaw10.FitPlanMatchesReference': WHATEVER THE INPUT: true; the input reads as it did. -/
def fitPlanMatchesReferenceSpec : ChangeSpec := { name := "fitPlanMatchesReference", fn := fun _ => fun
  | [d] => { results := [.lit (.bool true)], args := [d] }
  | _ => none }
def fitPlanMatchesReferenceRow : OpenClaim := { program := "ytkcgabodpcfohaadoor", sum := "f066de334bac49dbb8adfe6de5b4662435ea01ddc8203414e97b454835aa6078", func := "paxtar/paxtarlaw10.FitPlanMatchesReference", spec := "fitPlanMatchesReference", inPlace := ["internal/bytealg.IndexByteString", "internal/bytealg.IndexString"], unfollowed := true, recurses := true, named := ["paxtar/fit.types", "internal/bytealg.MaxLen", "paxtar/paxrec.keys", "strconv.ErrSyntax", "strconv.ErrRange", "internal/strconv.uint64pow10", "math/bits.deBruijn32tab", "math/bits.deBruijn64tab"], apart := false, laid := [("math/bits.deBruijn32tab", laid_math_bits_deBruijn32tab), ("math/bits.deBruijn64tab", laid_math_bits_deBruijn64tab), ("internal/strconv.uint64pow10", laid_internal_strconv_uint64pow10), ("strconv.ErrRange", laid_strconv_ErrRange), ("strconv.ErrSyntax", laid_strconv_ErrSyntax), ("paxtar/paxrec.keys", laid_paxtar_paxrec_keys), ("paxtar/fit.types", laid_paxtar_fit_types)] }
def FitPlanMatchesReferenceSaid : Prop := fitPlanMatchesReferenceRow.holds Tryd.pinned (OpenSpec.ofChange fitPlanMatchesReferenceSpec)

/-- ITS FALSE NEIGHBOUR: 'it returns false'. Refute it at one input. -/
def fitPlanMatchesReferenceWrong : ChangeSpec := { name := "fitPlanMatchesReference", fn := fun _ => fun
  | [d] => { results := [.lit (.bool false)], args := [d] }
  | _ => none }
def FitPlanMatchesReferenceWrongFalsely : Prop := fitPlanMatchesReferenceRow.holds Tryd.pinned (OpenSpec.ofChange fitPlanMatchesReferenceWrong)

/-- 'paxtarlaw10.FitIsInjective': WHATEVER THE INPUT: true; the input reads as it did. -/
def fitIsInjectiveSpec : ChangeSpec := { name := "fitIsInjective", fn := fun _ => fun
  | [d1, d2] => { results := [.lit (.bool true)], args := [d1, d2] }
  | _ => none }
def fitIsInjectiveRow : OpenClaim := { program := "ytkcgabodpcfohaadoor", sum := "f066de334bac49dbb8adfe6de5b4662435ea01ddc8203414e97b454835aa6078", func := "paxtar/paxtarlaw10.FitIsInjective", spec := "fitIsInjective", inPlace := ["internal/bytealg.IndexByteString", "internal/bytealg.IndexString"], unfollowed := true, recurses := true, named := ["paxtar/fit.types", "internal/bytealg.MaxLen", "paxtar/paxrec.keys", "strconv.ErrSyntax", "strconv.ErrRange", "internal/strconv.uint64pow10", "math/bits.deBruijn32tab", "math/bits.deBruijn64tab"], apart := false, laid := [("math/bits.deBruijn32tab", laid_math_bits_deBruijn32tab), ("math/bits.deBruijn64tab", laid_math_bits_deBruijn64tab), ("internal/strconv.uint64pow10", laid_internal_strconv_uint64pow10), ("strconv.ErrRange", laid_strconv_ErrRange), ("strconv.ErrSyntax", laid_strconv_ErrSyntax), ("paxtar/paxrec.keys", laid_paxtar_paxrec_keys), ("paxtar/fit.types", laid_paxtar_fit_types)] }
def FitIsInjectiveSaid : Prop := fitIsInjectiveRow.holds Tryd.pinned (OpenSpec.ofChange fitIsInjectiveSpec)

/-- ITS FALSE NEIGHBOUR: 'it returns false'. Refute it at one input. -/
def fitIsInjectiveWrong : ChangeSpec := { name := "fitIsInjective", fn := fun _ => fun
  | [d1, d2] => { results := [.lit (.bool false)], args := [d1, d2] }
  | _ => none }
def FitIsInjectiveWrongFalsely : Prop := fitIsInjectiveRow.holds Tryd.pinned (OpenSpec.ofChange fitIsInjectiveWrong)

/-- 'paxtarlaw10.FitMergeMatchesReference': WHATEVER THE INPUT: true; the input reads as it did. -/
def fitMergeMatchesReferenceSpec : ChangeSpec := { name := "fitMergeMatchesReference", fn := fun _ => fun
  | [d1, d2] => { results := [.lit (.bool true)], args := [d1, d2] }
  | _ => none }
def fitMergeMatchesReferenceRow : OpenClaim := { program := "ytkcgabodpcfohaadoor", sum := "f066de334bac49dbb8adfe6de5b4662435ea01ddc8203414e97b454835aa6078", func := "paxtar/paxtarlaw10.FitMergeMatchesReference", spec := "fitMergeMatchesReference", inPlace := ["internal/bytealg.IndexByteString", "internal/bytealg.IndexString"], unfollowed := true, recurses := true, named := ["paxtar/fit.types", "internal/bytealg.MaxLen", "paxtar/paxrec.keys", "strconv.ErrSyntax", "strconv.ErrRange", "internal/strconv.uint64pow10", "math/bits.deBruijn32tab", "math/bits.deBruijn64tab"], apart := false, laid := [("math/bits.deBruijn32tab", laid_math_bits_deBruijn32tab), ("math/bits.deBruijn64tab", laid_math_bits_deBruijn64tab), ("internal/strconv.uint64pow10", laid_internal_strconv_uint64pow10), ("strconv.ErrRange", laid_strconv_ErrRange), ("strconv.ErrSyntax", laid_strconv_ErrSyntax), ("paxtar/paxrec.keys", laid_paxtar_paxrec_keys), ("paxtar/fit.types", laid_paxtar_fit_types)] }
def FitMergeMatchesReferenceSaid : Prop := fitMergeMatchesReferenceRow.holds Tryd.pinned (OpenSpec.ofChange fitMergeMatchesReferenceSpec)

/-- ITS FALSE NEIGHBOUR: 'it returns false'. Refute it at one input. -/
def fitMergeMatchesReferenceWrong : ChangeSpec := { name := "fitMergeMatchesReference", fn := fun _ => fun
  | [d1, d2] => { results := [.lit (.bool false)], args := [d1, d2] }
  | _ => none }
def FitMergeMatchesReferenceWrongFalsely : Prop := fitMergeMatchesReferenceRow.holds Tryd.pinned (OpenSpec.ofChange fitMergeMatchesReferenceWrong)

/-- 'paxtarlaw10.FitIsMinimal': WHATEVER THE INPUT: true; the input reads as it did. -/
def fitIsMinimalSpec : ChangeSpec := { name := "fitIsMinimal", fn := fun _ => fun
  | [d1, d2] => { results := [.lit (.bool true)], args := [d1, d2] }
  | _ => none }
def fitIsMinimalRow : OpenClaim := { program := "ytkcgabodpcfohaadoor", sum := "f066de334bac49dbb8adfe6de5b4662435ea01ddc8203414e97b454835aa6078", func := "paxtar/paxtarlaw10.FitIsMinimal", spec := "fitIsMinimal", inPlace := ["internal/bytealg.IndexByteString", "internal/bytealg.IndexString"], unfollowed := true, recurses := true, named := ["paxtar/fit.types", "internal/bytealg.MaxLen", "paxtar/paxrec.keys", "strconv.ErrSyntax", "strconv.ErrRange", "internal/strconv.uint64pow10", "math/bits.deBruijn32tab", "math/bits.deBruijn64tab"], apart := false, laid := [("math/bits.deBruijn32tab", laid_math_bits_deBruijn32tab), ("math/bits.deBruijn64tab", laid_math_bits_deBruijn64tab), ("internal/strconv.uint64pow10", laid_internal_strconv_uint64pow10), ("strconv.ErrRange", laid_strconv_ErrRange), ("strconv.ErrSyntax", laid_strconv_ErrSyntax), ("paxtar/paxrec.keys", laid_paxtar_paxrec_keys), ("paxtar/fit.types", laid_paxtar_fit_types)] }
def FitIsMinimalSaid : Prop := fitIsMinimalRow.holds Tryd.pinned (OpenSpec.ofChange fitIsMinimalSpec)

/-- ITS FALSE NEIGHBOUR: 'it returns false'. Refute it at one input. -/
def fitIsMinimalWrong : ChangeSpec := { name := "fitIsMinimal", fn := fun _ => fun
  | [d1, d2] => { results := [.lit (.bool false)], args := [d1, d2] }
  | _ => none }
def FitIsMinimalWrongFalsely : Prop := fitIsMinimalRow.holds Tryd.pinned (OpenSpec.ofChange fitIsMinimalWrong)

/-- 'paxtarlaw09.PaxrecParseMatchesReference': WHATEVER THE INPUT: true; the input reads as it did. -/
def paxrecParseMatchesReferenceSpec : ChangeSpec := { name := "paxrecParseMatchesReference", fn := fun _ => fun
  | [d] => { results := [.lit (.bool true)], args := [d] }
  | _ => none }
def paxrecParseMatchesReferenceRow : OpenClaim := { program := "ytkcgabodpcfohaadoor", sum := "f066de334bac49dbb8adfe6de5b4662435ea01ddc8203414e97b454835aa6078", func := "paxtar/paxtarlaw09.PaxrecParseMatchesReference", spec := "paxrecParseMatchesReference", inPlace := ["internal/bytealg.IndexByteString", "internal/bytealg.IndexByte", "internal/bytealg.Index", "internal/bytealg.IndexString"], named := ["paxtar/paxrec.keys", "strconv.ErrSyntax", "strconv.ErrRange", "internal/strconv.uint64pow10", "math/bits.deBruijn32tab", "math/bits.deBruijn64tab", "internal/bytealg.MaxLen"], apart := false, laid := [("math/bits.deBruijn32tab", laid_math_bits_deBruijn32tab), ("math/bits.deBruijn64tab", laid_math_bits_deBruijn64tab), ("internal/strconv.uint64pow10", laid_internal_strconv_uint64pow10), ("strconv.ErrRange", laid_strconv_ErrRange), ("strconv.ErrSyntax", laid_strconv_ErrSyntax), ("paxtar/paxrec.keys", laid_paxtar_paxrec_keys)] }
def PaxrecParseMatchesReferenceSaid : Prop := paxrecParseMatchesReferenceRow.holds Tryd.pinned (OpenSpec.ofChange paxrecParseMatchesReferenceSpec)

/-- ITS FALSE NEIGHBOUR: 'it returns false'. Refute it at one input. -/
def paxrecParseMatchesReferenceWrong : ChangeSpec := { name := "paxrecParseMatchesReference", fn := fun _ => fun
  | [d] => { results := [.lit (.bool false)], args := [d] }
  | _ => none }
def PaxrecParseMatchesReferenceWrongFalsely : Prop := paxrecParseMatchesReferenceRow.holds Tryd.pinned (OpenSpec.ofChange paxrecParseMatchesReferenceWrong)

/-- 'paxtarlaw09.PaxrecRoundTrip': WHATEVER THE INPUT: true; the input reads as it did. -/
def paxrecRoundTripSpec : ChangeSpec := { name := "paxrecRoundTrip", fn := fun _ => fun
  | [d1, d2] => { results := [.lit (.bool true)], args := [d1, d2] }
  | _ => none }
def paxrecRoundTripRow : OpenClaim := { program := "ytkcgabodpcfohaadoor", sum := "f066de334bac49dbb8adfe6de5b4662435ea01ddc8203414e97b454835aa6078", func := "paxtar/paxtarlaw09.PaxrecRoundTrip", spec := "paxrecRoundTrip", inPlace := ["internal/bytealg.IndexByteString", "internal/bytealg.IndexByte", "internal/bytealg.Index", "internal/bytealg.IndexString"], named := ["paxtar/paxrec.keys", "strconv.ErrSyntax", "strconv.ErrRange", "internal/strconv.uint64pow10", "math/bits.deBruijn32tab", "math/bits.deBruijn64tab", "internal/bytealg.MaxLen"], apart := false, laid := [("math/bits.deBruijn32tab", laid_math_bits_deBruijn32tab), ("math/bits.deBruijn64tab", laid_math_bits_deBruijn64tab), ("internal/strconv.uint64pow10", laid_internal_strconv_uint64pow10), ("strconv.ErrRange", laid_strconv_ErrRange), ("strconv.ErrSyntax", laid_strconv_ErrSyntax), ("paxtar/paxrec.keys", laid_paxtar_paxrec_keys)] }
def PaxrecRoundTripSaid : Prop := paxrecRoundTripRow.holds Tryd.pinned (OpenSpec.ofChange paxrecRoundTripSpec)

/-- ITS FALSE NEIGHBOUR: 'it returns false'. Refute it at one input. -/
def paxrecRoundTripWrong : ChangeSpec := { name := "paxrecRoundTrip", fn := fun _ => fun
  | [d1, d2] => { results := [.lit (.bool false)], args := [d1, d2] }
  | _ => none }
def PaxrecRoundTripWrongFalsely : Prop := paxrecRoundTripRow.holds Tryd.pinned (OpenSpec.ofChange paxrecRoundTripWrong)

/-- 'paxtarlaw10.FitRoundTrip': WHATEVER THE INPUT: true; the input reads as it did. -/
def fitRoundTripSpec : ChangeSpec := { name := "fitRoundTrip", fn := fun _ => fun
  | [d] => { results := [.lit (.bool true)], args := [d] }
  | _ => none }
def fitRoundTripRow : OpenClaim := { program := "ytkcgabodpcfohaadoor", sum := "f066de334bac49dbb8adfe6de5b4662435ea01ddc8203414e97b454835aa6078", func := "paxtar/paxtarlaw10.FitRoundTrip", spec := "fitRoundTrip", inPlace := ["internal/bytealg.IndexByteString", "internal/bytealg.IndexString"], unfollowed := true, recurses := true, named := ["paxtar/fit.types", "internal/bytealg.MaxLen", "paxtar/paxrec.keys", "strconv.ErrSyntax", "strconv.ErrRange", "internal/strconv.uint64pow10", "math/bits.deBruijn32tab", "math/bits.deBruijn64tab", "paxtar/ustar.fieldName", "paxtar/ustar.fieldLinkname", "paxtar/ustar.fieldPrefix"], apart := false, laid := [("math/bits.deBruijn32tab", laid_math_bits_deBruijn32tab), ("math/bits.deBruijn64tab", laid_math_bits_deBruijn64tab), ("internal/strconv.uint64pow10", laid_internal_strconv_uint64pow10), ("strconv.ErrRange", laid_strconv_ErrRange), ("strconv.ErrSyntax", laid_strconv_ErrSyntax), ("paxtar/paxrec.keys", laid_paxtar_paxrec_keys), ("paxtar/ustar.fieldName", laid_paxtar_ustar_fieldName), ("paxtar/ustar.fieldLinkname", laid_paxtar_ustar_fieldLinkname), ("paxtar/ustar.fieldPrefix", laid_paxtar_ustar_fieldPrefix), ("paxtar/fit.types", laid_paxtar_fit_types)] }
def FitRoundTripSaid : Prop := fitRoundTripRow.holds Tryd.pinned (OpenSpec.ofChange fitRoundTripSpec)

/-- ITS FALSE NEIGHBOUR: 'it returns false'. Refute it at one input. -/
def fitRoundTripWrong : ChangeSpec := { name := "fitRoundTrip", fn := fun _ => fun
  | [d] => { results := [.lit (.bool false)], args := [d] }
  | _ => none }
def FitRoundTripWrongFalsely : Prop := fitRoundTripRow.holds Tryd.pinned (OpenSpec.ofChange fitRoundTripWrong)

/- THE SECOND FORM. 'bulk': how many values and letters a reading holds, each counted each time it is reached (what is shared counts as often as it is met; a slice's spare places count too). A statement '..UptoSaid' is the law's where the arguments, and the package variables that the reading takes, are together of bulk at most 1048576: NARROWER than '..Said'. Prove '..Said' where nothing that the law and all that it calls make is longer than what came in: it says more and counts as full. Else prove '..UptoSaid'. A law counts once. -/
mutual
def uptoBulk {H : Type} : DataW H → Nat
  | .lit (.string bytes) => bytes.length + 1
  | .lit _ => 1
  | .nil => 1
  | .ptr d => uptoBulk d + 1
  | .slice elems spare => uptoBulkAll elems + uptoBulkAll spare + 1
  | .agg parts => uptoBulkAll parts + 1
  | .iface _ d => uptoBulk d + 1
  | .map entries => uptoBulkEntries entries + 1
  | .held _ => 1
def uptoBulkAll {H : Type} : List (DataW H) → Nat
  | [] => 0
  | d :: r => uptoBulk d + uptoBulkAll r
def uptoBulkEntries {H : Type} : List (Lit × DataW H) → Nat
  | [] => 0
  | x :: r => uptoBulkEntry x + uptoBulkEntries r
def uptoBulkEntry {H : Type} : Lit × DataW H → Nat
  | (.string bytes, d) => bytes.length + uptoBulk d + 1
  | (_, d) => uptoBulk d + 1
 end
def uptoSmall : (H : Type) → List (DataW H) → Bool := fun _ ds => decide (uptoBulkAll ds ≤ 1048576)
def OpenSpec.upto (s : _root_.Go.ChangeSpec) : _root_.Go.OpenSpec := { _root_.Go.OpenSpec.ofChange s with cond := some uptoSmall }

/-- 'paxtarlaw09.PaxrecConcatenation', WHERE WHAT IT READS IS OF BULK AT MOST 1048576: true; the input reads as it did. -/
def paxrecConcatenationUptoRow : OpenClaim := { program := "ytkcgabodpcfohaadoor", sum := "f066de334bac49dbb8adfe6de5b4662435ea01ddc8203414e97b454835aa6078", func := "paxtar/paxtarlaw09.PaxrecConcatenation", spec := "paxrecConcatenation", inPlace := ["internal/bytealg.IndexByteString"], named := ["paxtar/paxrec.keys", "strconv.ErrSyntax", "strconv.ErrRange", "internal/strconv.uint64pow10", "math/bits.deBruijn32tab", "math/bits.deBruijn64tab"], apart := false, laid := [("math/bits.deBruijn32tab", laid_math_bits_deBruijn32tab), ("math/bits.deBruijn64tab", laid_math_bits_deBruijn64tab), ("internal/strconv.uint64pow10", laid_internal_strconv_uint64pow10), ("strconv.ErrRange", laid_strconv_ErrRange), ("strconv.ErrSyntax", laid_strconv_ErrSyntax), ("paxtar/paxrec.keys", laid_paxtar_paxrec_keys)], narrowed := true }
def PaxrecConcatenationUptoSaid : Prop := paxrecConcatenationUptoRow.holds Tryd.pinned (OpenSpec.upto paxrecConcatenationSpec)

/-- 'paxtarlaw09.PaxrecKeysOrdered', WHERE WHAT IT READS IS OF BULK AT MOST 1048576: true; the input reads as it did. -/
def paxrecKeysOrderedUptoRow : OpenClaim := { program := "ytkcgabodpcfohaadoor", sum := "f066de334bac49dbb8adfe6de5b4662435ea01ddc8203414e97b454835aa6078", func := "paxtar/paxtarlaw09.PaxrecKeysOrdered", spec := "paxrecKeysOrdered", inPlace := ["internal/bytealg.IndexByteString"], named := ["paxtar/paxrec.keys", "strconv.ErrSyntax", "strconv.ErrRange", "internal/strconv.uint64pow10", "math/bits.deBruijn32tab", "math/bits.deBruijn64tab"], apart := false, laid := [("math/bits.deBruijn32tab", laid_math_bits_deBruijn32tab), ("math/bits.deBruijn64tab", laid_math_bits_deBruijn64tab), ("internal/strconv.uint64pow10", laid_internal_strconv_uint64pow10), ("strconv.ErrRange", laid_strconv_ErrRange), ("strconv.ErrSyntax", laid_strconv_ErrSyntax), ("paxtar/paxrec.keys", laid_paxtar_paxrec_keys)], narrowed := true }
def PaxrecKeysOrderedUptoSaid : Prop := paxrecKeysOrderedUptoRow.holds Tryd.pinned (OpenSpec.upto paxrecKeysOrderedSpec)

/-- 'paxtarlaw09.PaxrecFormatMatchesReference', WHERE WHAT IT READS IS OF BULK AT MOST 1048576: true; the input reads as it did. -/
def paxrecFormatMatchesReferenceUptoRow : OpenClaim := { program := "ytkcgabodpcfohaadoor", sum := "f066de334bac49dbb8adfe6de5b4662435ea01ddc8203414e97b454835aa6078", func := "paxtar/paxtarlaw09.PaxrecFormatMatchesReference", spec := "paxrecFormatMatchesReference", inPlace := ["internal/bytealg.IndexByteString"], named := ["paxtar/paxrec.keys", "strconv.ErrSyntax", "strconv.ErrRange", "internal/strconv.uint64pow10", "math/bits.deBruijn32tab", "math/bits.deBruijn64tab"], apart := false, laid := [("math/bits.deBruijn32tab", laid_math_bits_deBruijn32tab), ("math/bits.deBruijn64tab", laid_math_bits_deBruijn64tab), ("internal/strconv.uint64pow10", laid_internal_strconv_uint64pow10), ("strconv.ErrRange", laid_strconv_ErrRange), ("strconv.ErrSyntax", laid_strconv_ErrSyntax), ("paxtar/paxrec.keys", laid_paxtar_paxrec_keys)], narrowed := true }
def PaxrecFormatMatchesReferenceUptoSaid : Prop := paxrecFormatMatchesReferenceUptoRow.holds Tryd.pinned (OpenSpec.upto paxrecFormatMatchesReferenceSpec)

/-- 'paxtarlaw09.PaxrecSizeIsLeast', WHERE WHAT IT READS IS OF BULK AT MOST 1048576: true; the input reads as it did. -/
def paxrecSizeIsLeastUptoRow : OpenClaim := { program := "ytkcgabodpcfohaadoor", sum := "f066de334bac49dbb8adfe6de5b4662435ea01ddc8203414e97b454835aa6078", func := "paxtar/paxtarlaw09.PaxrecSizeIsLeast", spec := "paxrecSizeIsLeast", inPlace := ["internal/abi.NoEscape", "internal/bytealg.MakeNoZero", "internal/bytealg.IndexByteString"], named := ["internal/strconv.uint64pow10", "math/bits.deBruijn32tab", "math/bits.deBruijn64tab", "paxtar/paxrec.keys", "strconv.ErrSyntax", "strconv.ErrRange"], apart := false, laid := [("math/bits.deBruijn32tab", laid_math_bits_deBruijn32tab), ("math/bits.deBruijn64tab", laid_math_bits_deBruijn64tab), ("internal/strconv.uint64pow10", laid_internal_strconv_uint64pow10), ("strconv.ErrRange", laid_strconv_ErrRange), ("strconv.ErrSyntax", laid_strconv_ErrSyntax), ("paxtar/paxrec.keys", laid_paxtar_paxrec_keys)], narrowed := true }
def PaxrecSizeIsLeastUptoSaid : Prop := paxrecSizeIsLeastUptoRow.holds Tryd.pinned (OpenSpec.upto paxrecSizeIsLeastSpec)

/-- 'paxtarlaw10.FitPathPlacement', WHERE WHAT IT READS IS OF BULK AT MOST 1048576: true; the input reads as it did. -/
def fitPathPlacementUptoRow : OpenClaim := { program := "ytkcgabodpcfohaadoor", sum := "f066de334bac49dbb8adfe6de5b4662435ea01ddc8203414e97b454835aa6078", func := "paxtar/paxtarlaw10.FitPathPlacement", spec := "fitPathPlacement", inPlace := ["internal/bytealg.IndexByteString", "internal/bytealg.IndexString"], unfollowed := true, recurses := true, named := ["paxtar/fit.types", "internal/bytealg.MaxLen", "paxtar/paxrec.keys", "strconv.ErrSyntax", "strconv.ErrRange", "internal/strconv.uint64pow10", "math/bits.deBruijn32tab", "math/bits.deBruijn64tab"], apart := false, laid := [("math/bits.deBruijn32tab", laid_math_bits_deBruijn32tab), ("math/bits.deBruijn64tab", laid_math_bits_deBruijn64tab), ("internal/strconv.uint64pow10", laid_internal_strconv_uint64pow10), ("strconv.ErrRange", laid_strconv_ErrRange), ("strconv.ErrSyntax", laid_strconv_ErrSyntax), ("paxtar/paxrec.keys", laid_paxtar_paxrec_keys), ("paxtar/fit.types", laid_paxtar_fit_types)], narrowed := true }
def FitPathPlacementUptoSaid : Prop := fitPathPlacementUptoRow.holds Tryd.pinned (OpenSpec.upto fitPathPlacementSpec)

/-- 'paxtarlaw10.FitSizeLimits', WHERE WHAT IT READS IS OF BULK AT MOST 1048576: true; the input reads as it did. -/
def fitSizeLimitsUptoRow : OpenClaim := { program := "ytkcgabodpcfohaadoor", sum := "f066de334bac49dbb8adfe6de5b4662435ea01ddc8203414e97b454835aa6078", func := "paxtar/paxtarlaw10.FitSizeLimits", spec := "fitSizeLimits", inPlace := ["internal/bytealg.IndexByteString", "internal/bytealg.IndexString"], unfollowed := true, recurses := true, named := ["paxtar/fit.types", "internal/bytealg.MaxLen", "paxtar/paxrec.keys", "strconv.ErrSyntax", "strconv.ErrRange", "internal/strconv.uint64pow10", "math/bits.deBruijn32tab", "math/bits.deBruijn64tab"], apart := false, laid := [("math/bits.deBruijn32tab", laid_math_bits_deBruijn32tab), ("math/bits.deBruijn64tab", laid_math_bits_deBruijn64tab), ("internal/strconv.uint64pow10", laid_internal_strconv_uint64pow10), ("strconv.ErrRange", laid_strconv_ErrRange), ("strconv.ErrSyntax", laid_strconv_ErrSyntax), ("paxtar/paxrec.keys", laid_paxtar_paxrec_keys), ("paxtar/fit.types", laid_paxtar_fit_types)], narrowed := true }
def FitSizeLimitsUptoSaid : Prop := fitSizeLimitsUptoRow.holds Tryd.pinned (OpenSpec.upto fitSizeLimitsSpec)

/-- 'paxtarlaw10.FitPlanMatchesReference', WHERE WHAT IT READS IS OF BULK AT MOST 1048576: true; the input reads as it did. -/
def fitPlanMatchesReferenceUptoRow : OpenClaim := { program := "ytkcgabodpcfohaadoor", sum := "f066de334bac49dbb8adfe6de5b4662435ea01ddc8203414e97b454835aa6078", func := "paxtar/paxtarlaw10.FitPlanMatchesReference", spec := "fitPlanMatchesReference", inPlace := ["internal/bytealg.IndexByteString", "internal/bytealg.IndexString"], unfollowed := true, recurses := true, named := ["paxtar/fit.types", "internal/bytealg.MaxLen", "paxtar/paxrec.keys", "strconv.ErrSyntax", "strconv.ErrRange", "internal/strconv.uint64pow10", "math/bits.deBruijn32tab", "math/bits.deBruijn64tab"], apart := false, laid := [("math/bits.deBruijn32tab", laid_math_bits_deBruijn32tab), ("math/bits.deBruijn64tab", laid_math_bits_deBruijn64tab), ("internal/strconv.uint64pow10", laid_internal_strconv_uint64pow10), ("strconv.ErrRange", laid_strconv_ErrRange), ("strconv.ErrSyntax", laid_strconv_ErrSyntax), ("paxtar/paxrec.keys", laid_paxtar_paxrec_keys), ("paxtar/fit.types", laid_paxtar_fit_types)], narrowed := true }
def FitPlanMatchesReferenceUptoSaid : Prop := fitPlanMatchesReferenceUptoRow.holds Tryd.pinned (OpenSpec.upto fitPlanMatchesReferenceSpec)

/-- 'paxtarlaw10.FitIsInjective', WHERE WHAT IT READS IS OF BULK AT MOST 1048576: true; the input reads as it did. -/
def fitIsInjectiveUptoRow : OpenClaim := { program := "ytkcgabodpcfohaadoor", sum := "f066de334bac49dbb8adfe6de5b4662435ea01ddc8203414e97b454835aa6078", func := "paxtar/paxtarlaw10.FitIsInjective", spec := "fitIsInjective", inPlace := ["internal/bytealg.IndexByteString", "internal/bytealg.IndexString"], unfollowed := true, recurses := true, named := ["paxtar/fit.types", "internal/bytealg.MaxLen", "paxtar/paxrec.keys", "strconv.ErrSyntax", "strconv.ErrRange", "internal/strconv.uint64pow10", "math/bits.deBruijn32tab", "math/bits.deBruijn64tab"], apart := false, laid := [("math/bits.deBruijn32tab", laid_math_bits_deBruijn32tab), ("math/bits.deBruijn64tab", laid_math_bits_deBruijn64tab), ("internal/strconv.uint64pow10", laid_internal_strconv_uint64pow10), ("strconv.ErrRange", laid_strconv_ErrRange), ("strconv.ErrSyntax", laid_strconv_ErrSyntax), ("paxtar/paxrec.keys", laid_paxtar_paxrec_keys), ("paxtar/fit.types", laid_paxtar_fit_types)], narrowed := true }
def FitIsInjectiveUptoSaid : Prop := fitIsInjectiveUptoRow.holds Tryd.pinned (OpenSpec.upto fitIsInjectiveSpec)

/-- 'paxtarlaw10.FitMergeMatchesReference', WHERE WHAT IT READS IS OF BULK AT MOST 1048576: true; the input reads as it did. -/
def fitMergeMatchesReferenceUptoRow : OpenClaim := { program := "ytkcgabodpcfohaadoor", sum := "f066de334bac49dbb8adfe6de5b4662435ea01ddc8203414e97b454835aa6078", func := "paxtar/paxtarlaw10.FitMergeMatchesReference", spec := "fitMergeMatchesReference", inPlace := ["internal/bytealg.IndexByteString", "internal/bytealg.IndexString"], unfollowed := true, recurses := true, named := ["paxtar/fit.types", "internal/bytealg.MaxLen", "paxtar/paxrec.keys", "strconv.ErrSyntax", "strconv.ErrRange", "internal/strconv.uint64pow10", "math/bits.deBruijn32tab", "math/bits.deBruijn64tab"], apart := false, laid := [("math/bits.deBruijn32tab", laid_math_bits_deBruijn32tab), ("math/bits.deBruijn64tab", laid_math_bits_deBruijn64tab), ("internal/strconv.uint64pow10", laid_internal_strconv_uint64pow10), ("strconv.ErrRange", laid_strconv_ErrRange), ("strconv.ErrSyntax", laid_strconv_ErrSyntax), ("paxtar/paxrec.keys", laid_paxtar_paxrec_keys), ("paxtar/fit.types", laid_paxtar_fit_types)], narrowed := true }
def FitMergeMatchesReferenceUptoSaid : Prop := fitMergeMatchesReferenceUptoRow.holds Tryd.pinned (OpenSpec.upto fitMergeMatchesReferenceSpec)

/-- 'paxtarlaw10.FitIsMinimal', WHERE WHAT IT READS IS OF BULK AT MOST 1048576: true; the input reads as it did. -/
def fitIsMinimalUptoRow : OpenClaim := { program := "ytkcgabodpcfohaadoor", sum := "f066de334bac49dbb8adfe6de5b4662435ea01ddc8203414e97b454835aa6078", func := "paxtar/paxtarlaw10.FitIsMinimal", spec := "fitIsMinimal", inPlace := ["internal/bytealg.IndexByteString", "internal/bytealg.IndexString"], unfollowed := true, recurses := true, named := ["paxtar/fit.types", "internal/bytealg.MaxLen", "paxtar/paxrec.keys", "strconv.ErrSyntax", "strconv.ErrRange", "internal/strconv.uint64pow10", "math/bits.deBruijn32tab", "math/bits.deBruijn64tab"], apart := false, laid := [("math/bits.deBruijn32tab", laid_math_bits_deBruijn32tab), ("math/bits.deBruijn64tab", laid_math_bits_deBruijn64tab), ("internal/strconv.uint64pow10", laid_internal_strconv_uint64pow10), ("strconv.ErrRange", laid_strconv_ErrRange), ("strconv.ErrSyntax", laid_strconv_ErrSyntax), ("paxtar/paxrec.keys", laid_paxtar_paxrec_keys), ("paxtar/fit.types", laid_paxtar_fit_types)], narrowed := true }
def FitIsMinimalUptoSaid : Prop := fitIsMinimalUptoRow.holds Tryd.pinned (OpenSpec.upto fitIsMinimalSpec)

/-- 'paxtarlaw09.PaxrecParseMatchesReference', WHERE WHAT IT READS IS OF BULK AT MOST 1048576: true; the input reads as it did. -/
def paxrecParseMatchesReferenceUptoRow : OpenClaim := { program := "ytkcgabodpcfohaadoor", sum := "f066de334bac49dbb8adfe6de5b4662435ea01ddc8203414e97b454835aa6078", func := "paxtar/paxtarlaw09.PaxrecParseMatchesReference", spec := "paxrecParseMatchesReference", inPlace := ["internal/bytealg.IndexByteString", "internal/bytealg.IndexByte", "internal/bytealg.Index", "internal/bytealg.IndexString"], named := ["paxtar/paxrec.keys", "strconv.ErrSyntax", "strconv.ErrRange", "internal/strconv.uint64pow10", "math/bits.deBruijn32tab", "math/bits.deBruijn64tab", "internal/bytealg.MaxLen"], apart := false, laid := [("math/bits.deBruijn32tab", laid_math_bits_deBruijn32tab), ("math/bits.deBruijn64tab", laid_math_bits_deBruijn64tab), ("internal/strconv.uint64pow10", laid_internal_strconv_uint64pow10), ("strconv.ErrRange", laid_strconv_ErrRange), ("strconv.ErrSyntax", laid_strconv_ErrSyntax), ("paxtar/paxrec.keys", laid_paxtar_paxrec_keys)], narrowed := true }
def PaxrecParseMatchesReferenceUptoSaid : Prop := paxrecParseMatchesReferenceUptoRow.holds Tryd.pinned (OpenSpec.upto paxrecParseMatchesReferenceSpec)

/-- 'paxtarlaw09.PaxrecRoundTrip', WHERE WHAT IT READS IS OF BULK AT MOST 1048576: true; the input reads as it did. -/
def paxrecRoundTripUptoRow : OpenClaim := { program := "ytkcgabodpcfohaadoor", sum := "f066de334bac49dbb8adfe6de5b4662435ea01ddc8203414e97b454835aa6078", func := "paxtar/paxtarlaw09.PaxrecRoundTrip", spec := "paxrecRoundTrip", inPlace := ["internal/bytealg.IndexByteString", "internal/bytealg.IndexByte", "internal/bytealg.Index", "internal/bytealg.IndexString"], named := ["paxtar/paxrec.keys", "strconv.ErrSyntax", "strconv.ErrRange", "internal/strconv.uint64pow10", "math/bits.deBruijn32tab", "math/bits.deBruijn64tab", "internal/bytealg.MaxLen"], apart := false, laid := [("math/bits.deBruijn32tab", laid_math_bits_deBruijn32tab), ("math/bits.deBruijn64tab", laid_math_bits_deBruijn64tab), ("internal/strconv.uint64pow10", laid_internal_strconv_uint64pow10), ("strconv.ErrRange", laid_strconv_ErrRange), ("strconv.ErrSyntax", laid_strconv_ErrSyntax), ("paxtar/paxrec.keys", laid_paxtar_paxrec_keys)], narrowed := true }
def PaxrecRoundTripUptoSaid : Prop := paxrecRoundTripUptoRow.holds Tryd.pinned (OpenSpec.upto paxrecRoundTripSpec)

/-- 'paxtarlaw10.FitRoundTrip', WHERE WHAT IT READS IS OF BULK AT MOST 1048576: true; the input reads as it did. -/
def fitRoundTripUptoRow : OpenClaim := { program := "ytkcgabodpcfohaadoor", sum := "f066de334bac49dbb8adfe6de5b4662435ea01ddc8203414e97b454835aa6078", func := "paxtar/paxtarlaw10.FitRoundTrip", spec := "fitRoundTrip", inPlace := ["internal/bytealg.IndexByteString", "internal/bytealg.IndexString"], unfollowed := true, recurses := true, named := ["paxtar/fit.types", "internal/bytealg.MaxLen", "paxtar/paxrec.keys", "strconv.ErrSyntax", "strconv.ErrRange", "internal/strconv.uint64pow10", "math/bits.deBruijn32tab", "math/bits.deBruijn64tab", "paxtar/ustar.fieldName", "paxtar/ustar.fieldLinkname", "paxtar/ustar.fieldPrefix"], apart := false, laid := [("math/bits.deBruijn32tab", laid_math_bits_deBruijn32tab), ("math/bits.deBruijn64tab", laid_math_bits_deBruijn64tab), ("internal/strconv.uint64pow10", laid_internal_strconv_uint64pow10), ("strconv.ErrRange", laid_strconv_ErrRange), ("strconv.ErrSyntax", laid_strconv_ErrSyntax), ("paxtar/paxrec.keys", laid_paxtar_paxrec_keys), ("paxtar/ustar.fieldName", laid_paxtar_ustar_fieldName), ("paxtar/ustar.fieldLinkname", laid_paxtar_ustar_fieldLinkname), ("paxtar/ustar.fieldPrefix", laid_paxtar_ustar_fieldPrefix), ("paxtar/fit.types", laid_paxtar_fit_types)], narrowed := true }
def FitRoundTripUptoSaid : Prop := fitRoundTripUptoRow.holds Tryd.pinned (OpenSpec.upto fitRoundTripSpec)

end Rows
end Go.Proofs.YtkcgabodpcfohaaDoor
