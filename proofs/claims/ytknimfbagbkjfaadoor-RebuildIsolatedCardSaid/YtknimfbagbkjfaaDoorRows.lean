/-
  NARROWER THAN 'FOR EVERY INPUT', by the rows' own cells (each row's printed sentence says how): RebuildMatchesReference: laid · RebuildIsolated: laid · RebuildCheckIsPure: laid · FlattenMembersMatchReference: laid · FlattenDependsOnTree: laid · FlattenHardLinks: laid · RebuildInvertsFlatten: laid · RebuildIsStrict: laid · RebuildPrefixIsValid: laid.
  DERIVED. THE GIVEN ROWS OF THIS SEAT. 9 by the template 'for every input the law returns true; each argument reads behind the call as it read before'; 0 by the template 'total and deterministic' (their statements: YtknimfbagbkjfaaDoorTotals.lean).
  GIVEN WITH THE SEED: the statements are not yours to turn. If you find one false, say at which input.
  Laid BY PROGRAM, IN A SANDBOX (cutbox-rows.mjs): the forced cells as the released guide's own fill.sh prints them over the translation d3731bc2d97ac95e… (all of the seat's roots in one cut). By AI agents, Wed Nov 11 2026. No macro, syntax, notation, axiom, sorry.
-/
import Derived.Test.YtknimfbagbkjfaaDoorChecked
import GoSem.Claim
import GoSem.ClaimJoined
import GoSem.ClaimMapViews
import Derived.JoinedTies
import Derived.KernelRfl
namespace Go.Proofs.YtknimfbagbkjfaaDoor
/- THE CELL 'sum', in the pinned program and in every row, IS THE sha256 OF THE DUMP (.gsa) THAT YtknimfbagbkjfaaDoorProg.lean LOADS. Nothing in Lean hashes anything: it is a label: what it is worth is what the hold of that sum in a sandbox is worth. -/
noncomputable def Tryd.pinned : Pinned := { name := "ytknimfbagbkjfaadoor", sum := "d3731bc2d97ac95ecc24ab29086886dd006df17b4de70c68a904ab8122c54884", checked := Tryd.checked }
namespace Rows
def none {H : Type} : Left H := { results := [], args := [] }

/- WHAT THE LISTED PACKAGE-LEVEL VARIABLES READ AS WHEN THE CALL BEGINS. Each datum BY PROGRAM (the guide's laid-datum.mjs) off the statement by which the dump's own 'gosem.cut.vars' lays the variable. In a bare row this is a premise. The card (YtknimfbagbkjfaaDoorCards.lean) ties it to the program's text. -/
def laid_math_bits_deBruijn32tab {H : Type} : DataW H := .agg [.lit (.int .u8 0), .lit (.int .u8 1), .lit (.int .u8 28), .lit (.int .u8 2), .lit (.int .u8 29), .lit (.int .u8 14), .lit (.int .u8 24), .lit (.int .u8 3), .lit (.int .u8 30), .lit (.int .u8 22), .lit (.int .u8 20), .lit (.int .u8 15), .lit (.int .u8 25), .lit (.int .u8 17), .lit (.int .u8 4), .lit (.int .u8 8), .lit (.int .u8 31), .lit (.int .u8 27), .lit (.int .u8 13), .lit (.int .u8 23), .lit (.int .u8 21), .lit (.int .u8 19), .lit (.int .u8 16), .lit (.int .u8 7), .lit (.int .u8 26), .lit (.int .u8 12), .lit (.int .u8 18), .lit (.int .u8 6), .lit (.int .u8 11), .lit (.int .u8 5), .lit (.int .u8 10), .lit (.int .u8 9)]
def laid_math_bits_deBruijn64tab {H : Type} : DataW H := .agg [.lit (.int .u8 0), .lit (.int .u8 1), .lit (.int .u8 56), .lit (.int .u8 2), .lit (.int .u8 57), .lit (.int .u8 49), .lit (.int .u8 28), .lit (.int .u8 3), .lit (.int .u8 61), .lit (.int .u8 58), .lit (.int .u8 42), .lit (.int .u8 50), .lit (.int .u8 38), .lit (.int .u8 29), .lit (.int .u8 17), .lit (.int .u8 4), .lit (.int .u8 62), .lit (.int .u8 47), .lit (.int .u8 59), .lit (.int .u8 36), .lit (.int .u8 45), .lit (.int .u8 43), .lit (.int .u8 51), .lit (.int .u8 22), .lit (.int .u8 53), .lit (.int .u8 39), .lit (.int .u8 33), .lit (.int .u8 30), .lit (.int .u8 24), .lit (.int .u8 18), .lit (.int .u8 12), .lit (.int .u8 5), .lit (.int .u8 63), .lit (.int .u8 55), .lit (.int .u8 48), .lit (.int .u8 27), .lit (.int .u8 60), .lit (.int .u8 41), .lit (.int .u8 37), .lit (.int .u8 16), .lit (.int .u8 46), .lit (.int .u8 35), .lit (.int .u8 44), .lit (.int .u8 21), .lit (.int .u8 52), .lit (.int .u8 32), .lit (.int .u8 23), .lit (.int .u8 11), .lit (.int .u8 54), .lit (.int .u8 26), .lit (.int .u8 40), .lit (.int .u8 15), .lit (.int .u8 34), .lit (.int .u8 20), .lit (.int .u8 31), .lit (.int .u8 10), .lit (.int .u8 25), .lit (.int .u8 14), .lit (.int .u8 19), .lit (.int .u8 9), .lit (.int .u8 13), .lit (.int .u8 8), .lit (.int .u8 7), .lit (.int .u8 6)]
def laid_internal_strconv_uint64pow10 {H : Type} : DataW H := .agg [.lit (.int .u64 1), .lit (.int .u64 10), .lit (.int .u64 100), .lit (.int .u64 1000), .lit (.int .u64 10000), .lit (.int .u64 100000), .lit (.int .u64 1000000), .lit (.int .u64 10000000), .lit (.int .u64 100000000), .lit (.int .u64 1000000000), .lit (.int .u64 10000000000), .lit (.int .u64 100000000000), .lit (.int .u64 1000000000000), .lit (.int .u64 10000000000000), .lit (.int .u64 100000000000000), .lit (.int .u64 1000000000000000), .lit (.int .u64 10000000000000000), .lit (.int .u64 100000000000000000), .lit (.int .u64 1000000000000000000), .lit (.int .u64 10000000000000000000)]
def laid_strconv_ErrRange {H : Type} : DataW H := .iface "*errors.errorString" (.ptr (.agg [.lit (.string [118, 97, 108, 117, 101, 32, 111, 117, 116, 32, 111, 102, 32, 114, 97, 110, 103, 101])]))
def laid_strconv_ErrSyntax {H : Type} : DataW H := .iface "*errors.errorString" (.ptr (.agg [.lit (.string [105, 110, 118, 97, 108, 105, 100, 32, 115, 121, 110, 116, 97, 120])]))
def laid_paxtar_paxrec_keys {H : Type} : DataW H := .agg [.lit (.string [108, 105, 110, 107, 112, 97, 116, 104]), .lit (.string [112, 97, 116, 104]), .lit (.string [115, 105, 122, 101])]

/-- 'paxtarlaw15.RebuildMatchesReference': WHATEVER THE INPUT: true; the input reads as it did. -/
def rebuildMatchesReferenceSpec : ChangeSpec := { name := "rebuildMatchesReference", fn := fun _ => fun
  | [d] => { results := [.lit (.bool true)], args := [d] }
  | _ => none }
def rebuildMatchesReferenceRow : OpenClaim := { program := "ytknimfbagbkjfaadoor", sum := "d3731bc2d97ac95ecc24ab29086886dd006df17b4de70c68a904ab8122c54884", func := "paxtar/paxtarlaw15.RebuildMatchesReference", spec := "rebuildMatchesReference", inPlace := ["internal/bytealg.IndexByteString", "internal/bytealg.IndexString"], unfollowed := true, recurses := true, named := ["internal/bytealg.MaxLen", "paxtar/paxrec.keys", "strconv.ErrSyntax", "strconv.ErrRange", "internal/strconv.uint64pow10", "math/bits.deBruijn32tab", "math/bits.deBruijn64tab"], apart := false, laid := [("math/bits.deBruijn32tab", laid_math_bits_deBruijn32tab), ("math/bits.deBruijn64tab", laid_math_bits_deBruijn64tab), ("internal/strconv.uint64pow10", laid_internal_strconv_uint64pow10), ("strconv.ErrRange", laid_strconv_ErrRange), ("strconv.ErrSyntax", laid_strconv_ErrSyntax), ("paxtar/paxrec.keys", laid_paxtar_paxrec_keys)] }
def RebuildMatchesReferenceSaid : Prop := rebuildMatchesReferenceRow.holds Tryd.pinned (OpenSpec.ofChange rebuildMatchesReferenceSpec)

/-- ITS FALSE NEIGHBOUR: 'it returns false'. Refute it at one input. -/
def rebuildMatchesReferenceWrong : ChangeSpec := { name := "rebuildMatchesReference", fn := fun _ => fun
  | [d] => { results := [.lit (.bool false)], args := [d] }
  | _ => none }
def RebuildMatchesReferenceWrongFalsely : Prop := rebuildMatchesReferenceRow.holds Tryd.pinned (OpenSpec.ofChange rebuildMatchesReferenceWrong)

/-- 'paxtarlaw15.RebuildIsolated': WHATEVER THE INPUT: true; the input reads as it did. -/
def rebuildIsolatedSpec : ChangeSpec := { name := "rebuildIsolated", fn := fun _ => fun
  | [d] => { results := [.lit (.bool true)], args := [d] }
  | _ => none }
def rebuildIsolatedRow : OpenClaim := { program := "ytknimfbagbkjfaadoor", sum := "d3731bc2d97ac95ecc24ab29086886dd006df17b4de70c68a904ab8122c54884", func := "paxtar/paxtarlaw15.RebuildIsolated", spec := "rebuildIsolated", inPlace := ["internal/bytealg.IndexByteString", "internal/bytealg.IndexString"], unfollowed := true, recurses := true, named := ["internal/bytealg.MaxLen", "paxtar/paxrec.keys", "strconv.ErrSyntax", "strconv.ErrRange", "internal/strconv.uint64pow10", "math/bits.deBruijn32tab", "math/bits.deBruijn64tab"], apart := false, laid := [("math/bits.deBruijn32tab", laid_math_bits_deBruijn32tab), ("math/bits.deBruijn64tab", laid_math_bits_deBruijn64tab), ("internal/strconv.uint64pow10", laid_internal_strconv_uint64pow10), ("strconv.ErrRange", laid_strconv_ErrRange), ("strconv.ErrSyntax", laid_strconv_ErrSyntax), ("paxtar/paxrec.keys", laid_paxtar_paxrec_keys)] }
def RebuildIsolatedSaid : Prop := rebuildIsolatedRow.holds Tryd.pinned (OpenSpec.ofChange rebuildIsolatedSpec)

/-- ITS FALSE NEIGHBOUR: 'it returns false'. Refute it at one input. -/
def rebuildIsolatedWrong : ChangeSpec := { name := "rebuildIsolated", fn := fun _ => fun
  | [d] => { results := [.lit (.bool false)], args := [d] }
  | _ => none }
def RebuildIsolatedWrongFalsely : Prop := rebuildIsolatedRow.holds Tryd.pinned (OpenSpec.ofChange rebuildIsolatedWrong)

/-- 'paxtarlaw15.RebuildCheckIsPure': WHATEVER THE INPUT: true; the input reads as it did. -/
def rebuildCheckIsPureSpec : ChangeSpec := { name := "rebuildCheckIsPure", fn := fun _ => fun
  | [d] => { results := [.lit (.bool true)], args := [d] }
  | _ => none }
def rebuildCheckIsPureRow : OpenClaim := { program := "ytknimfbagbkjfaadoor", sum := "d3731bc2d97ac95ecc24ab29086886dd006df17b4de70c68a904ab8122c54884", func := "paxtar/paxtarlaw15.RebuildCheckIsPure", spec := "rebuildCheckIsPure", inPlace := ["internal/bytealg.IndexByteString", "internal/bytealg.IndexString"], unfollowed := true, recurses := true, named := ["internal/bytealg.MaxLen", "paxtar/paxrec.keys", "strconv.ErrSyntax", "strconv.ErrRange", "internal/strconv.uint64pow10", "math/bits.deBruijn32tab", "math/bits.deBruijn64tab"], apart := false, laid := [("math/bits.deBruijn32tab", laid_math_bits_deBruijn32tab), ("math/bits.deBruijn64tab", laid_math_bits_deBruijn64tab), ("internal/strconv.uint64pow10", laid_internal_strconv_uint64pow10), ("strconv.ErrRange", laid_strconv_ErrRange), ("strconv.ErrSyntax", laid_strconv_ErrSyntax), ("paxtar/paxrec.keys", laid_paxtar_paxrec_keys)] }
def RebuildCheckIsPureSaid : Prop := rebuildCheckIsPureRow.holds Tryd.pinned (OpenSpec.ofChange rebuildCheckIsPureSpec)

/-- ITS FALSE NEIGHBOUR: 'it returns false'. Refute it at one input. -/
def rebuildCheckIsPureWrong : ChangeSpec := { name := "rebuildCheckIsPure", fn := fun _ => fun
  | [d] => { results := [.lit (.bool false)], args := [d] }
  | _ => none }
def RebuildCheckIsPureWrongFalsely : Prop := rebuildCheckIsPureRow.holds Tryd.pinned (OpenSpec.ofChange rebuildCheckIsPureWrong)

/-- 'paxtarlaw14.FlattenMembersMatchReference': WHATEVER THE INPUT: true; the input reads as it did. -/
def flattenMembersMatchReferenceSpec : ChangeSpec := { name := "flattenMembersMatchReference", fn := fun _ => fun
  | [d] => { results := [.lit (.bool true)], args := [d] }
  | _ => none }
def flattenMembersMatchReferenceRow : OpenClaim := { program := "ytknimfbagbkjfaadoor", sum := "d3731bc2d97ac95ecc24ab29086886dd006df17b4de70c68a904ab8122c54884", func := "paxtar/paxtarlaw14.FlattenMembersMatchReference", spec := "flattenMembersMatchReference", inPlace := ["internal/bytealg.IndexByteString", "internal/bytealg.IndexString"], unfollowed := true, recurses := true, named := ["internal/bytealg.MaxLen", "paxtar/paxrec.keys", "strconv.ErrSyntax", "strconv.ErrRange", "internal/strconv.uint64pow10", "math/bits.deBruijn32tab", "math/bits.deBruijn64tab"], apart := false, laid := [("math/bits.deBruijn32tab", laid_math_bits_deBruijn32tab), ("math/bits.deBruijn64tab", laid_math_bits_deBruijn64tab), ("internal/strconv.uint64pow10", laid_internal_strconv_uint64pow10), ("strconv.ErrRange", laid_strconv_ErrRange), ("strconv.ErrSyntax", laid_strconv_ErrSyntax), ("paxtar/paxrec.keys", laid_paxtar_paxrec_keys)] }
def FlattenMembersMatchReferenceSaid : Prop := flattenMembersMatchReferenceRow.holds Tryd.pinned (OpenSpec.ofChange flattenMembersMatchReferenceSpec)

/-- ITS FALSE NEIGHBOUR: 'it returns false'. Refute it at one input. -/
def flattenMembersMatchReferenceWrong : ChangeSpec := { name := "flattenMembersMatchReference", fn := fun _ => fun
  | [d] => { results := [.lit (.bool false)], args := [d] }
  | _ => none }
def FlattenMembersMatchReferenceWrongFalsely : Prop := flattenMembersMatchReferenceRow.holds Tryd.pinned (OpenSpec.ofChange flattenMembersMatchReferenceWrong)

/-- 'paxtarlaw14.FlattenDependsOnTree': WHATEVER THE INPUT: true; the input reads as it did. -/
def flattenDependsOnTreeSpec : ChangeSpec := { name := "flattenDependsOnTree", fn := fun _ => fun
  | [d1, d2] => { results := [.lit (.bool true)], args := [d1, d2] }
  | _ => none }
def flattenDependsOnTreeRow : OpenClaim := { program := "ytknimfbagbkjfaadoor", sum := "d3731bc2d97ac95ecc24ab29086886dd006df17b4de70c68a904ab8122c54884", func := "paxtar/paxtarlaw14.FlattenDependsOnTree", spec := "flattenDependsOnTree", inPlace := ["internal/bytealg.IndexByteString", "internal/bytealg.IndexString"], unfollowed := true, recurses := true, named := ["internal/bytealg.MaxLen", "paxtar/paxrec.keys", "strconv.ErrSyntax", "strconv.ErrRange", "internal/strconv.uint64pow10", "math/bits.deBruijn32tab", "math/bits.deBruijn64tab"], apart := false, laid := [("math/bits.deBruijn32tab", laid_math_bits_deBruijn32tab), ("math/bits.deBruijn64tab", laid_math_bits_deBruijn64tab), ("internal/strconv.uint64pow10", laid_internal_strconv_uint64pow10), ("strconv.ErrRange", laid_strconv_ErrRange), ("strconv.ErrSyntax", laid_strconv_ErrSyntax), ("paxtar/paxrec.keys", laid_paxtar_paxrec_keys)] }
def FlattenDependsOnTreeSaid : Prop := flattenDependsOnTreeRow.holds Tryd.pinned (OpenSpec.ofChange flattenDependsOnTreeSpec)

/-- ITS FALSE NEIGHBOUR: 'it returns false'. Refute it at one input. -/
def flattenDependsOnTreeWrong : ChangeSpec := { name := "flattenDependsOnTree", fn := fun _ => fun
  | [d1, d2] => { results := [.lit (.bool false)], args := [d1, d2] }
  | _ => none }
def FlattenDependsOnTreeWrongFalsely : Prop := flattenDependsOnTreeRow.holds Tryd.pinned (OpenSpec.ofChange flattenDependsOnTreeWrong)

/-- 'paxtarlaw14.FlattenHardLinks': WHATEVER THE INPUT: true; the input reads as it did. -/
def flattenHardLinksSpec : ChangeSpec := { name := "flattenHardLinks", fn := fun _ => fun
  | [d] => { results := [.lit (.bool true)], args := [d] }
  | _ => none }
def flattenHardLinksRow : OpenClaim := { program := "ytknimfbagbkjfaadoor", sum := "d3731bc2d97ac95ecc24ab29086886dd006df17b4de70c68a904ab8122c54884", func := "paxtar/paxtarlaw14.FlattenHardLinks", spec := "flattenHardLinks", inPlace := ["internal/bytealg.IndexByteString", "internal/bytealg.IndexString"], unfollowed := true, recurses := true, named := ["internal/bytealg.MaxLen", "paxtar/paxrec.keys", "strconv.ErrSyntax", "strconv.ErrRange", "internal/strconv.uint64pow10", "math/bits.deBruijn32tab", "math/bits.deBruijn64tab"], apart := false, laid := [("math/bits.deBruijn32tab", laid_math_bits_deBruijn32tab), ("math/bits.deBruijn64tab", laid_math_bits_deBruijn64tab), ("internal/strconv.uint64pow10", laid_internal_strconv_uint64pow10), ("strconv.ErrRange", laid_strconv_ErrRange), ("strconv.ErrSyntax", laid_strconv_ErrSyntax), ("paxtar/paxrec.keys", laid_paxtar_paxrec_keys)] }
def FlattenHardLinksSaid : Prop := flattenHardLinksRow.holds Tryd.pinned (OpenSpec.ofChange flattenHardLinksSpec)

/-- ITS FALSE NEIGHBOUR: 'it returns false'. Refute it at one input. -/
def flattenHardLinksWrong : ChangeSpec := { name := "flattenHardLinks", fn := fun _ => fun
  | [d] => { results := [.lit (.bool false)], args := [d] }
  | _ => none }
def FlattenHardLinksWrongFalsely : Prop := flattenHardLinksRow.holds Tryd.pinned (OpenSpec.ofChange flattenHardLinksWrong)

/-- 'paxtarlaw15.RebuildInvertsFlatten': WHATEVER THE INPUT: true; the input reads as it did. -/
def rebuildInvertsFlattenSpec : ChangeSpec := { name := "rebuildInvertsFlatten", fn := fun _ => fun
  | [d] => { results := [.lit (.bool true)], args := [d] }
  | _ => none }
def rebuildInvertsFlattenRow : OpenClaim := { program := "ytknimfbagbkjfaadoor", sum := "d3731bc2d97ac95ecc24ab29086886dd006df17b4de70c68a904ab8122c54884", func := "paxtar/paxtarlaw15.RebuildInvertsFlatten", spec := "rebuildInvertsFlatten", inPlace := ["internal/bytealg.IndexByteString", "internal/bytealg.IndexString"], unfollowed := true, recurses := true, named := ["internal/bytealg.MaxLen", "paxtar/paxrec.keys", "strconv.ErrSyntax", "strconv.ErrRange", "internal/strconv.uint64pow10", "math/bits.deBruijn32tab", "math/bits.deBruijn64tab"], apart := false, laid := [("math/bits.deBruijn32tab", laid_math_bits_deBruijn32tab), ("math/bits.deBruijn64tab", laid_math_bits_deBruijn64tab), ("internal/strconv.uint64pow10", laid_internal_strconv_uint64pow10), ("strconv.ErrRange", laid_strconv_ErrRange), ("strconv.ErrSyntax", laid_strconv_ErrSyntax), ("paxtar/paxrec.keys", laid_paxtar_paxrec_keys)] }
def RebuildInvertsFlattenSaid : Prop := rebuildInvertsFlattenRow.holds Tryd.pinned (OpenSpec.ofChange rebuildInvertsFlattenSpec)

/-- ITS FALSE NEIGHBOUR: 'it returns false'. Refute it at one input. -/
def rebuildInvertsFlattenWrong : ChangeSpec := { name := "rebuildInvertsFlatten", fn := fun _ => fun
  | [d] => { results := [.lit (.bool false)], args := [d] }
  | _ => none }
def RebuildInvertsFlattenWrongFalsely : Prop := rebuildInvertsFlattenRow.holds Tryd.pinned (OpenSpec.ofChange rebuildInvertsFlattenWrong)

/-- 'paxtarlaw15.RebuildIsStrict': WHATEVER THE INPUT: true; the input reads as it did. -/
def rebuildIsStrictSpec : ChangeSpec := { name := "rebuildIsStrict", fn := fun _ => fun
  | [d] => { results := [.lit (.bool true)], args := [d] }
  | _ => none }
def rebuildIsStrictRow : OpenClaim := { program := "ytknimfbagbkjfaadoor", sum := "d3731bc2d97ac95ecc24ab29086886dd006df17b4de70c68a904ab8122c54884", func := "paxtar/paxtarlaw15.RebuildIsStrict", spec := "rebuildIsStrict", inPlace := ["internal/bytealg.IndexByteString", "internal/bytealg.IndexString"], unfollowed := true, recurses := true, named := ["internal/bytealg.MaxLen", "paxtar/paxrec.keys", "strconv.ErrSyntax", "strconv.ErrRange", "internal/strconv.uint64pow10", "math/bits.deBruijn32tab", "math/bits.deBruijn64tab"], apart := false, laid := [("math/bits.deBruijn32tab", laid_math_bits_deBruijn32tab), ("math/bits.deBruijn64tab", laid_math_bits_deBruijn64tab), ("internal/strconv.uint64pow10", laid_internal_strconv_uint64pow10), ("strconv.ErrRange", laid_strconv_ErrRange), ("strconv.ErrSyntax", laid_strconv_ErrSyntax), ("paxtar/paxrec.keys", laid_paxtar_paxrec_keys)] }
def RebuildIsStrictSaid : Prop := rebuildIsStrictRow.holds Tryd.pinned (OpenSpec.ofChange rebuildIsStrictSpec)

/-- ITS FALSE NEIGHBOUR: 'it returns false'. Refute it at one input. -/
def rebuildIsStrictWrong : ChangeSpec := { name := "rebuildIsStrict", fn := fun _ => fun
  | [d] => { results := [.lit (.bool false)], args := [d] }
  | _ => none }
def RebuildIsStrictWrongFalsely : Prop := rebuildIsStrictRow.holds Tryd.pinned (OpenSpec.ofChange rebuildIsStrictWrong)

/-- 'paxtarlaw15.RebuildPrefixIsValid': WHATEVER THE INPUT: true; the input reads as it did. -/
def rebuildPrefixIsValidSpec : ChangeSpec := { name := "rebuildPrefixIsValid", fn := fun _ => fun
  | [d1, d2] => { results := [.lit (.bool true)], args := [d1, d2] }
  | _ => none }
def rebuildPrefixIsValidRow : OpenClaim := { program := "ytknimfbagbkjfaadoor", sum := "d3731bc2d97ac95ecc24ab29086886dd006df17b4de70c68a904ab8122c54884", func := "paxtar/paxtarlaw15.RebuildPrefixIsValid", spec := "rebuildPrefixIsValid", inPlace := ["internal/bytealg.IndexByteString", "internal/bytealg.IndexString"], unfollowed := true, recurses := true, named := ["internal/bytealg.MaxLen", "paxtar/paxrec.keys", "strconv.ErrSyntax", "strconv.ErrRange", "internal/strconv.uint64pow10", "math/bits.deBruijn32tab", "math/bits.deBruijn64tab"], apart := false, laid := [("math/bits.deBruijn32tab", laid_math_bits_deBruijn32tab), ("math/bits.deBruijn64tab", laid_math_bits_deBruijn64tab), ("internal/strconv.uint64pow10", laid_internal_strconv_uint64pow10), ("strconv.ErrRange", laid_strconv_ErrRange), ("strconv.ErrSyntax", laid_strconv_ErrSyntax), ("paxtar/paxrec.keys", laid_paxtar_paxrec_keys)] }
def RebuildPrefixIsValidSaid : Prop := rebuildPrefixIsValidRow.holds Tryd.pinned (OpenSpec.ofChange rebuildPrefixIsValidSpec)

/-- ITS FALSE NEIGHBOUR: 'it returns false'. Refute it at one input. -/
def rebuildPrefixIsValidWrong : ChangeSpec := { name := "rebuildPrefixIsValid", fn := fun _ => fun
  | [d1, d2] => { results := [.lit (.bool false)], args := [d1, d2] }
  | _ => none }
def RebuildPrefixIsValidWrongFalsely : Prop := rebuildPrefixIsValidRow.holds Tryd.pinned (OpenSpec.ofChange rebuildPrefixIsValidWrong)

/- THE SECOND FORM. 'bulk': how many values and letters a reading holds, each counted each time it is reached (what is shared counts as often as it is met; a slice's spare places count too). A statement '..UptoSaid' is the law's where the arguments, and the package variables that the reading takes, are together of bulk at most 1048576: NARROWER than '..Said'. Prove '..Said' where nothing that the law and all that it calls make is longer than what came in: it says more and counts as full. Else prove '..UptoSaid'. A law counts once. -/
mutual
def uptoBulk {H : Type} : DataW H → Nat
  | .lit (.string bytes) => bytes.length + 1
  | .lit _ => 1
  | .nil => 1
  | .ptr d => uptoBulk d + 1
  | .slice elems spare => uptoBulkAll elems + uptoBulkAll spare + 1
  | .agg parts => uptoBulkAll parts + 1
  | .iface _ d => uptoBulk d + 1
  | .map entries => uptoBulkEntries entries + 1
  | .held _ => 1
def uptoBulkAll {H : Type} : List (DataW H) → Nat
  | [] => 0
  | d :: r => uptoBulk d + uptoBulkAll r
def uptoBulkEntries {H : Type} : List (Lit × DataW H) → Nat
  | [] => 0
  | x :: r => uptoBulkEntry x + uptoBulkEntries r
def uptoBulkEntry {H : Type} : Lit × DataW H → Nat
  | (.string bytes, d) => bytes.length + uptoBulk d + 1
  | (_, d) => uptoBulk d + 1
 end
def uptoSmall : (H : Type) → List (DataW H) → Bool := fun _ ds => decide (uptoBulkAll ds ≤ 1048576)
def OpenSpec.upto (s : _root_.Go.ChangeSpec) : _root_.Go.OpenSpec := { _root_.Go.OpenSpec.ofChange s with cond := some uptoSmall }

/-- 'paxtarlaw15.RebuildMatchesReference', WHERE WHAT IT READS IS OF BULK AT MOST 1048576: true; the input reads as it did. -/
def rebuildMatchesReferenceUptoRow : OpenClaim := { program := "ytknimfbagbkjfaadoor", sum := "d3731bc2d97ac95ecc24ab29086886dd006df17b4de70c68a904ab8122c54884", func := "paxtar/paxtarlaw15.RebuildMatchesReference", spec := "rebuildMatchesReference", inPlace := ["internal/bytealg.IndexByteString", "internal/bytealg.IndexString"], unfollowed := true, recurses := true, named := ["internal/bytealg.MaxLen", "paxtar/paxrec.keys", "strconv.ErrSyntax", "strconv.ErrRange", "internal/strconv.uint64pow10", "math/bits.deBruijn32tab", "math/bits.deBruijn64tab"], apart := false, laid := [("math/bits.deBruijn32tab", laid_math_bits_deBruijn32tab), ("math/bits.deBruijn64tab", laid_math_bits_deBruijn64tab), ("internal/strconv.uint64pow10", laid_internal_strconv_uint64pow10), ("strconv.ErrRange", laid_strconv_ErrRange), ("strconv.ErrSyntax", laid_strconv_ErrSyntax), ("paxtar/paxrec.keys", laid_paxtar_paxrec_keys)], narrowed := true }
def RebuildMatchesReferenceUptoSaid : Prop := rebuildMatchesReferenceUptoRow.holds Tryd.pinned (OpenSpec.upto rebuildMatchesReferenceSpec)

/-- 'paxtarlaw15.RebuildIsolated', WHERE WHAT IT READS IS OF BULK AT MOST 1048576: true; the input reads as it did. -/
def rebuildIsolatedUptoRow : OpenClaim := { program := "ytknimfbagbkjfaadoor", sum := "d3731bc2d97ac95ecc24ab29086886dd006df17b4de70c68a904ab8122c54884", func := "paxtar/paxtarlaw15.RebuildIsolated", spec := "rebuildIsolated", inPlace := ["internal/bytealg.IndexByteString", "internal/bytealg.IndexString"], unfollowed := true, recurses := true, named := ["internal/bytealg.MaxLen", "paxtar/paxrec.keys", "strconv.ErrSyntax", "strconv.ErrRange", "internal/strconv.uint64pow10", "math/bits.deBruijn32tab", "math/bits.deBruijn64tab"], apart := false, laid := [("math/bits.deBruijn32tab", laid_math_bits_deBruijn32tab), ("math/bits.deBruijn64tab", laid_math_bits_deBruijn64tab), ("internal/strconv.uint64pow10", laid_internal_strconv_uint64pow10), ("strconv.ErrRange", laid_strconv_ErrRange), ("strconv.ErrSyntax", laid_strconv_ErrSyntax), ("paxtar/paxrec.keys", laid_paxtar_paxrec_keys)], narrowed := true }
def RebuildIsolatedUptoSaid : Prop := rebuildIsolatedUptoRow.holds Tryd.pinned (OpenSpec.upto rebuildIsolatedSpec)

/-- 'paxtarlaw15.RebuildCheckIsPure', WHERE WHAT IT READS IS OF BULK AT MOST 1048576: true; the input reads as it did. -/
def rebuildCheckIsPureUptoRow : OpenClaim := { program := "ytknimfbagbkjfaadoor", sum := "d3731bc2d97ac95ecc24ab29086886dd006df17b4de70c68a904ab8122c54884", func := "paxtar/paxtarlaw15.RebuildCheckIsPure", spec := "rebuildCheckIsPure", inPlace := ["internal/bytealg.IndexByteString", "internal/bytealg.IndexString"], unfollowed := true, recurses := true, named := ["internal/bytealg.MaxLen", "paxtar/paxrec.keys", "strconv.ErrSyntax", "strconv.ErrRange", "internal/strconv.uint64pow10", "math/bits.deBruijn32tab", "math/bits.deBruijn64tab"], apart := false, laid := [("math/bits.deBruijn32tab", laid_math_bits_deBruijn32tab), ("math/bits.deBruijn64tab", laid_math_bits_deBruijn64tab), ("internal/strconv.uint64pow10", laid_internal_strconv_uint64pow10), ("strconv.ErrRange", laid_strconv_ErrRange), ("strconv.ErrSyntax", laid_strconv_ErrSyntax), ("paxtar/paxrec.keys", laid_paxtar_paxrec_keys)], narrowed := true }
def RebuildCheckIsPureUptoSaid : Prop := rebuildCheckIsPureUptoRow.holds Tryd.pinned (OpenSpec.upto rebuildCheckIsPureSpec)

/-- 'paxtarlaw14.FlattenMembersMatchReference', WHERE WHAT IT READS IS OF BULK AT MOST 1048576: true; the input reads as it did. -/
def flattenMembersMatchReferenceUptoRow : OpenClaim := { program := "ytknimfbagbkjfaadoor", sum := "d3731bc2d97ac95ecc24ab29086886dd006df17b4de70c68a904ab8122c54884", func := "paxtar/paxtarlaw14.FlattenMembersMatchReference", spec := "flattenMembersMatchReference", inPlace := ["internal/bytealg.IndexByteString", "internal/bytealg.IndexString"], unfollowed := true, recurses := true, named := ["internal/bytealg.MaxLen", "paxtar/paxrec.keys", "strconv.ErrSyntax", "strconv.ErrRange", "internal/strconv.uint64pow10", "math/bits.deBruijn32tab", "math/bits.deBruijn64tab"], apart := false, laid := [("math/bits.deBruijn32tab", laid_math_bits_deBruijn32tab), ("math/bits.deBruijn64tab", laid_math_bits_deBruijn64tab), ("internal/strconv.uint64pow10", laid_internal_strconv_uint64pow10), ("strconv.ErrRange", laid_strconv_ErrRange), ("strconv.ErrSyntax", laid_strconv_ErrSyntax), ("paxtar/paxrec.keys", laid_paxtar_paxrec_keys)], narrowed := true }
def FlattenMembersMatchReferenceUptoSaid : Prop := flattenMembersMatchReferenceUptoRow.holds Tryd.pinned (OpenSpec.upto flattenMembersMatchReferenceSpec)

/-- 'paxtarlaw14.FlattenDependsOnTree', WHERE WHAT IT READS IS OF BULK AT MOST 1048576: true; the input reads as it did. -/
def flattenDependsOnTreeUptoRow : OpenClaim := { program := "ytknimfbagbkjfaadoor", sum := "d3731bc2d97ac95ecc24ab29086886dd006df17b4de70c68a904ab8122c54884", func := "paxtar/paxtarlaw14.FlattenDependsOnTree", spec := "flattenDependsOnTree", inPlace := ["internal/bytealg.IndexByteString", "internal/bytealg.IndexString"], unfollowed := true, recurses := true, named := ["internal/bytealg.MaxLen", "paxtar/paxrec.keys", "strconv.ErrSyntax", "strconv.ErrRange", "internal/strconv.uint64pow10", "math/bits.deBruijn32tab", "math/bits.deBruijn64tab"], apart := false, laid := [("math/bits.deBruijn32tab", laid_math_bits_deBruijn32tab), ("math/bits.deBruijn64tab", laid_math_bits_deBruijn64tab), ("internal/strconv.uint64pow10", laid_internal_strconv_uint64pow10), ("strconv.ErrRange", laid_strconv_ErrRange), ("strconv.ErrSyntax", laid_strconv_ErrSyntax), ("paxtar/paxrec.keys", laid_paxtar_paxrec_keys)], narrowed := true }
def FlattenDependsOnTreeUptoSaid : Prop := flattenDependsOnTreeUptoRow.holds Tryd.pinned (OpenSpec.upto flattenDependsOnTreeSpec)

/-- 'paxtarlaw14.FlattenHardLinks', WHERE WHAT IT READS IS OF BULK AT MOST 1048576: true; the input reads as it did. -/
def flattenHardLinksUptoRow : OpenClaim := { program := "ytknimfbagbkjfaadoor", sum := "d3731bc2d97ac95ecc24ab29086886dd006df17b4de70c68a904ab8122c54884", func := "paxtar/paxtarlaw14.FlattenHardLinks", spec := "flattenHardLinks", inPlace := ["internal/bytealg.IndexByteString", "internal/bytealg.IndexString"], unfollowed := true, recurses := true, named := ["internal/bytealg.MaxLen", "paxtar/paxrec.keys", "strconv.ErrSyntax", "strconv.ErrRange", "internal/strconv.uint64pow10", "math/bits.deBruijn32tab", "math/bits.deBruijn64tab"], apart := false, laid := [("math/bits.deBruijn32tab", laid_math_bits_deBruijn32tab), ("math/bits.deBruijn64tab", laid_math_bits_deBruijn64tab), ("internal/strconv.uint64pow10", laid_internal_strconv_uint64pow10), ("strconv.ErrRange", laid_strconv_ErrRange), ("strconv.ErrSyntax", laid_strconv_ErrSyntax), ("paxtar/paxrec.keys", laid_paxtar_paxrec_keys)], narrowed := true }
def FlattenHardLinksUptoSaid : Prop := flattenHardLinksUptoRow.holds Tryd.pinned (OpenSpec.upto flattenHardLinksSpec)

/-- 'paxtarlaw15.RebuildInvertsFlatten', WHERE WHAT IT READS IS OF BULK AT MOST 1048576: true; the input reads as it did. -/
def rebuildInvertsFlattenUptoRow : OpenClaim := { program := "ytknimfbagbkjfaadoor", sum := "d3731bc2d97ac95ecc24ab29086886dd006df17b4de70c68a904ab8122c54884", func := "paxtar/paxtarlaw15.RebuildInvertsFlatten", spec := "rebuildInvertsFlatten", inPlace := ["internal/bytealg.IndexByteString", "internal/bytealg.IndexString"], unfollowed := true, recurses := true, named := ["internal/bytealg.MaxLen", "paxtar/paxrec.keys", "strconv.ErrSyntax", "strconv.ErrRange", "internal/strconv.uint64pow10", "math/bits.deBruijn32tab", "math/bits.deBruijn64tab"], apart := false, laid := [("math/bits.deBruijn32tab", laid_math_bits_deBruijn32tab), ("math/bits.deBruijn64tab", laid_math_bits_deBruijn64tab), ("internal/strconv.uint64pow10", laid_internal_strconv_uint64pow10), ("strconv.ErrRange", laid_strconv_ErrRange), ("strconv.ErrSyntax", laid_strconv_ErrSyntax), ("paxtar/paxrec.keys", laid_paxtar_paxrec_keys)], narrowed := true }
def RebuildInvertsFlattenUptoSaid : Prop := rebuildInvertsFlattenUptoRow.holds Tryd.pinned (OpenSpec.upto rebuildInvertsFlattenSpec)

/-- 'paxtarlaw15.RebuildIsStrict', WHERE WHAT IT READS IS OF BULK AT MOST 1048576: true; the input reads as it did. -/
def rebuildIsStrictUptoRow : OpenClaim := { program := "ytknimfbagbkjfaadoor", sum := "d3731bc2d97ac95ecc24ab29086886dd006df17b4de70c68a904ab8122c54884", func := "paxtar/paxtarlaw15.RebuildIsStrict", spec := "rebuildIsStrict", inPlace := ["internal/bytealg.IndexByteString", "internal/bytealg.IndexString"], unfollowed := true, recurses := true, named := ["internal/bytealg.MaxLen", "paxtar/paxrec.keys", "strconv.ErrSyntax", "strconv.ErrRange", "internal/strconv.uint64pow10", "math/bits.deBruijn32tab", "math/bits.deBruijn64tab"], apart := false, laid := [("math/bits.deBruijn32tab", laid_math_bits_deBruijn32tab), ("math/bits.deBruijn64tab", laid_math_bits_deBruijn64tab), ("internal/strconv.uint64pow10", laid_internal_strconv_uint64pow10), ("strconv.ErrRange", laid_strconv_ErrRange), ("strconv.ErrSyntax", laid_strconv_ErrSyntax), ("paxtar/paxrec.keys", laid_paxtar_paxrec_keys)], narrowed := true }
def RebuildIsStrictUptoSaid : Prop := rebuildIsStrictUptoRow.holds Tryd.pinned (OpenSpec.upto rebuildIsStrictSpec)

/-- 'paxtarlaw15.RebuildPrefixIsValid', WHERE WHAT IT READS IS OF BULK AT MOST 1048576: true; the input reads as it did. -/
def rebuildPrefixIsValidUptoRow : OpenClaim := { program := "ytknimfbagbkjfaadoor", sum := "d3731bc2d97ac95ecc24ab29086886dd006df17b4de70c68a904ab8122c54884", func := "paxtar/paxtarlaw15.RebuildPrefixIsValid", spec := "rebuildPrefixIsValid", inPlace := ["internal/bytealg.IndexByteString", "internal/bytealg.IndexString"], unfollowed := true, recurses := true, named := ["internal/bytealg.MaxLen", "paxtar/paxrec.keys", "strconv.ErrSyntax", "strconv.ErrRange", "internal/strconv.uint64pow10", "math/bits.deBruijn32tab", "math/bits.deBruijn64tab"], apart := false, laid := [("math/bits.deBruijn32tab", laid_math_bits_deBruijn32tab), ("math/bits.deBruijn64tab", laid_math_bits_deBruijn64tab), ("internal/strconv.uint64pow10", laid_internal_strconv_uint64pow10), ("strconv.ErrRange", laid_strconv_ErrRange), ("strconv.ErrSyntax", laid_strconv_ErrSyntax), ("paxtar/paxrec.keys", laid_paxtar_paxrec_keys)], narrowed := true }
def RebuildPrefixIsValidUptoSaid : Prop := rebuildPrefixIsValidUptoRow.holds Tryd.pinned (OpenSpec.upto rebuildPrefixIsValidSpec)

end Rows
end Go.Proofs.YtknimfbagbkjfaaDoor
