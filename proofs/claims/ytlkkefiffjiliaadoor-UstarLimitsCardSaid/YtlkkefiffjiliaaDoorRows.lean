/-
  NARROWER THAN 'FOR EVERY INPUT', by the rows' own cells (each row's printed sentence says how): UstarEncodeMatchesReference: laid · UstarFields: laid · UstarLimits: laid · UstarDecodeMatchesReference: laid · UstarRoundTrip: laid · UstarRejectsOneByte: laid.
  DERIVED. THE GIVEN ROWS OF THIS SEAT. 6 by the template 'for every input the law returns true; each argument reads behind the call as it read before'; 0 by the template 'total and deterministic' (their statements: YtlkkefiffjiliaaDoorTotals.lean).
  GIVEN WITH THE SEED: the statements are not yours to turn. If you find one false, say at which input.
  Laid BY PROGRAM, IN A SANDBOX (cutbox-rows.mjs): the forced cells as the released guide's own fill.sh prints them over the translation b02888f5393dc3dc… (all of the seat's roots in one cut). By AI agents, Wed Nov 11 2026. No macro, syntax, notation, axiom, sorry.
-/
import Derived.Test.YtlkkefiffjiliaaDoorChecked
import GoSem.Claim
import GoSem.ClaimJoined
import GoSem.ClaimMapViews
import Derived.JoinedTies
import Derived.KernelRfl
namespace Go.Proofs.YtlkkefiffjiliaaDoor
/- THE CELL 'sum', in the pinned program and in every row, IS THE sha256 OF THE DUMP (.gsa) THAT YtlkkefiffjiliaaDoorProg.lean LOADS. Nothing in Lean hashes anything: it is a label: what it is worth is what the hold of that sum in a sandbox is worth. -/
noncomputable def Tryd.pinned : Pinned := { name := "ytlkkefiffjiliaadoor", sum := "b02888f5393dc3dcf0c229df692f51dc592a15d422ff146d0631b009a37d09b7", checked := Tryd.checked }
namespace Rows
def none {H : Type} : Left H := { results := [], args := [] }

/- WHAT THE LISTED PACKAGE-LEVEL VARIABLES READ AS WHEN THE CALL BEGINS. Each datum BY PROGRAM (the guide's laid-datum.mjs) off the statement by which the dump's own 'gosem.cut.vars' lays the variable. In a bare row this is a premise. The card (YtlkkefiffjiliaaDoorCards.lean) ties it to the program's text. -/
def laid_paxtar_ustar_fieldName {H : Type} : DataW H := .agg [.lit (.int .i64 0), .lit (.int .i64 100)]
def laid_paxtar_ustar_fieldMode {H : Type} : DataW H := .agg [.lit (.int .i64 100), .lit (.int .i64 8)]
def laid_paxtar_ustar_fieldUid {H : Type} : DataW H := .agg [.lit (.int .i64 108), .lit (.int .i64 8)]
def laid_paxtar_ustar_fieldGid {H : Type} : DataW H := .agg [.lit (.int .i64 116), .lit (.int .i64 8)]
def laid_paxtar_ustar_fieldSize {H : Type} : DataW H := .agg [.lit (.int .i64 124), .lit (.int .i64 12)]
def laid_paxtar_ustar_fieldMtime {H : Type} : DataW H := .agg [.lit (.int .i64 136), .lit (.int .i64 12)]
def laid_paxtar_ustar_fieldType {H : Type} : DataW H := .agg [.lit (.int .i64 156), .lit (.int .i64 1)]
def laid_paxtar_ustar_fieldLinkname {H : Type} : DataW H := .agg [.lit (.int .i64 157), .lit (.int .i64 100)]
def laid_paxtar_ustar_fieldMagic {H : Type} : DataW H := .agg [.lit (.int .i64 257), .lit (.int .i64 8)]
def laid_paxtar_ustar_fieldMajor {H : Type} : DataW H := .agg [.lit (.int .i64 329), .lit (.int .i64 8)]
def laid_paxtar_ustar_fieldMinor {H : Type} : DataW H := .agg [.lit (.int .i64 337), .lit (.int .i64 8)]
def laid_paxtar_ustar_fieldPrefix {H : Type} : DataW H := .agg [.lit (.int .i64 345), .lit (.int .i64 155)]

/-- 'paxtarlaw07.UstarEncodeMatchesReference': WHATEVER THE INPUT: true; the input reads as it did. -/
def ustarEncodeMatchesReferenceSpec : ChangeSpec := { name := "ustarEncodeMatchesReference", fn := fun _ => fun
  | [d] => { results := [.lit (.bool true)], args := [d] }
  | _ => none }
def ustarEncodeMatchesReferenceRow : OpenClaim := { program := "ytlkkefiffjiliaadoor", sum := "b02888f5393dc3dcf0c229df692f51dc592a15d422ff146d0631b009a37d09b7", func := "paxtar/paxtarlaw07.UstarEncodeMatchesReference", spec := "ustarEncodeMatchesReference", inPlace := ["internal/bytealg.IndexByteString"], unfollowed := true, recurses := true, named := ["paxtar/ustar.fieldName", "paxtar/ustar.fieldLinkname", "paxtar/ustar.fieldPrefix", "paxtar/ustar.fieldMagic", "paxtar/ustar.fieldType", "paxtar/ustar.fieldMode", "paxtar/ustar.fieldSize", "paxtar/ustar.fieldUid", "paxtar/ustar.fieldGid", "paxtar/ustar.fieldMtime", "paxtar/ustar.fieldMajor", "paxtar/ustar.fieldMinor"], apart := false, laid := [("paxtar/ustar.fieldName", laid_paxtar_ustar_fieldName), ("paxtar/ustar.fieldMode", laid_paxtar_ustar_fieldMode), ("paxtar/ustar.fieldUid", laid_paxtar_ustar_fieldUid), ("paxtar/ustar.fieldGid", laid_paxtar_ustar_fieldGid), ("paxtar/ustar.fieldSize", laid_paxtar_ustar_fieldSize), ("paxtar/ustar.fieldMtime", laid_paxtar_ustar_fieldMtime), ("paxtar/ustar.fieldType", laid_paxtar_ustar_fieldType), ("paxtar/ustar.fieldLinkname", laid_paxtar_ustar_fieldLinkname), ("paxtar/ustar.fieldMagic", laid_paxtar_ustar_fieldMagic), ("paxtar/ustar.fieldMajor", laid_paxtar_ustar_fieldMajor), ("paxtar/ustar.fieldMinor", laid_paxtar_ustar_fieldMinor), ("paxtar/ustar.fieldPrefix", laid_paxtar_ustar_fieldPrefix)] }
def UstarEncodeMatchesReferenceSaid : Prop := ustarEncodeMatchesReferenceRow.holds Tryd.pinned (OpenSpec.ofChange ustarEncodeMatchesReferenceSpec)

/-- ITS FALSE NEIGHBOUR: 'it returns false'. Refute it at one input. -/
def ustarEncodeMatchesReferenceWrong : ChangeSpec := { name := "ustarEncodeMatchesReference", fn := fun _ => fun
  | [d] => { results := [.lit (.bool false)], args := [d] }
  | _ => none }
def UstarEncodeMatchesReferenceWrongFalsely : Prop := ustarEncodeMatchesReferenceRow.holds Tryd.pinned (OpenSpec.ofChange ustarEncodeMatchesReferenceWrong)

/-- 'paxtarlaw07.UstarFields': WHATEVER THE INPUT: true; the input reads as it did. -/
def ustarFieldsSpec : ChangeSpec := { name := "ustarFields", fn := fun _ => fun
  | [d] => { results := [.lit (.bool true)], args := [d] }
  | _ => none }
def ustarFieldsRow : OpenClaim := { program := "ytlkkefiffjiliaadoor", sum := "b02888f5393dc3dcf0c229df692f51dc592a15d422ff146d0631b009a37d09b7", func := "paxtar/paxtarlaw07.UstarFields", spec := "ustarFields", inPlace := ["internal/bytealg.IndexByteString"], unfollowed := true, recurses := true, named := ["paxtar/ustar.fieldName", "paxtar/ustar.fieldLinkname", "paxtar/ustar.fieldPrefix", "paxtar/ustar.fieldMagic", "paxtar/ustar.fieldType", "paxtar/ustar.fieldMode", "paxtar/ustar.fieldSize", "paxtar/ustar.fieldUid", "paxtar/ustar.fieldGid", "paxtar/ustar.fieldMtime", "paxtar/ustar.fieldMajor", "paxtar/ustar.fieldMinor"], apart := false, laid := [("paxtar/ustar.fieldName", laid_paxtar_ustar_fieldName), ("paxtar/ustar.fieldMode", laid_paxtar_ustar_fieldMode), ("paxtar/ustar.fieldUid", laid_paxtar_ustar_fieldUid), ("paxtar/ustar.fieldGid", laid_paxtar_ustar_fieldGid), ("paxtar/ustar.fieldSize", laid_paxtar_ustar_fieldSize), ("paxtar/ustar.fieldMtime", laid_paxtar_ustar_fieldMtime), ("paxtar/ustar.fieldType", laid_paxtar_ustar_fieldType), ("paxtar/ustar.fieldLinkname", laid_paxtar_ustar_fieldLinkname), ("paxtar/ustar.fieldMagic", laid_paxtar_ustar_fieldMagic), ("paxtar/ustar.fieldMajor", laid_paxtar_ustar_fieldMajor), ("paxtar/ustar.fieldMinor", laid_paxtar_ustar_fieldMinor), ("paxtar/ustar.fieldPrefix", laid_paxtar_ustar_fieldPrefix)] }
def UstarFieldsSaid : Prop := ustarFieldsRow.holds Tryd.pinned (OpenSpec.ofChange ustarFieldsSpec)

/-- ITS FALSE NEIGHBOUR: 'it returns false'. Refute it at one input. -/
def ustarFieldsWrong : ChangeSpec := { name := "ustarFields", fn := fun _ => fun
  | [d] => { results := [.lit (.bool false)], args := [d] }
  | _ => none }
def UstarFieldsWrongFalsely : Prop := ustarFieldsRow.holds Tryd.pinned (OpenSpec.ofChange ustarFieldsWrong)

/-- 'paxtarlaw07.UstarLimits': WHATEVER THE INPUT: true; the input reads as it did. -/
def ustarLimitsSpec : ChangeSpec := { name := "ustarLimits", fn := fun _ => fun
  | [d1, d2] => { results := [.lit (.bool true)], args := [d1, d2] }
  | _ => none }
def ustarLimitsRow : OpenClaim := { program := "ytlkkefiffjiliaadoor", sum := "b02888f5393dc3dcf0c229df692f51dc592a15d422ff146d0631b009a37d09b7", func := "paxtar/paxtarlaw07.UstarLimits", spec := "ustarLimits", inPlace := ["internal/abi.NoEscape", "internal/bytealg.MakeNoZero", "internal/bytealg.IndexByteString"], unfollowed := true, recurses := true, named := ["paxtar/ustar.fieldName", "paxtar/ustar.fieldLinkname", "paxtar/ustar.fieldPrefix", "paxtar/ustar.fieldMagic", "paxtar/ustar.fieldType", "paxtar/ustar.fieldMode", "paxtar/ustar.fieldSize", "paxtar/ustar.fieldUid", "paxtar/ustar.fieldGid", "paxtar/ustar.fieldMtime", "paxtar/ustar.fieldMajor", "paxtar/ustar.fieldMinor"], apart := false, laid := [("paxtar/ustar.fieldName", laid_paxtar_ustar_fieldName), ("paxtar/ustar.fieldMode", laid_paxtar_ustar_fieldMode), ("paxtar/ustar.fieldUid", laid_paxtar_ustar_fieldUid), ("paxtar/ustar.fieldGid", laid_paxtar_ustar_fieldGid), ("paxtar/ustar.fieldSize", laid_paxtar_ustar_fieldSize), ("paxtar/ustar.fieldMtime", laid_paxtar_ustar_fieldMtime), ("paxtar/ustar.fieldType", laid_paxtar_ustar_fieldType), ("paxtar/ustar.fieldLinkname", laid_paxtar_ustar_fieldLinkname), ("paxtar/ustar.fieldMagic", laid_paxtar_ustar_fieldMagic), ("paxtar/ustar.fieldMajor", laid_paxtar_ustar_fieldMajor), ("paxtar/ustar.fieldMinor", laid_paxtar_ustar_fieldMinor), ("paxtar/ustar.fieldPrefix", laid_paxtar_ustar_fieldPrefix)] }
def UstarLimitsSaid : Prop := ustarLimitsRow.holds Tryd.pinned (OpenSpec.ofChange ustarLimitsSpec)

/-- ITS FALSE NEIGHBOUR: 'it returns false'. Refute it at one input. -/
def ustarLimitsWrong : ChangeSpec := { name := "ustarLimits", fn := fun _ => fun
  | [d1, d2] => { results := [.lit (.bool false)], args := [d1, d2] }
  | _ => none }
def UstarLimitsWrongFalsely : Prop := ustarLimitsRow.holds Tryd.pinned (OpenSpec.ofChange ustarLimitsWrong)

/-- 'paxtarlaw07.UstarDecodeMatchesReference': WHATEVER THE INPUT: true; the input reads as it did. -/
def ustarDecodeMatchesReferenceSpec : ChangeSpec := { name := "ustarDecodeMatchesReference", fn := fun _ => fun
  | [d] => { results := [.lit (.bool true)], args := [d] }
  | _ => none }
def ustarDecodeMatchesReferenceRow : OpenClaim := { program := "ytlkkefiffjiliaadoor", sum := "b02888f5393dc3dcf0c229df692f51dc592a15d422ff146d0631b009a37d09b7", func := "paxtar/paxtarlaw07.UstarDecodeMatchesReference", spec := "ustarDecodeMatchesReference", inPlace := ["internal/bytealg.IndexByteString", "internal/bytealg.IndexByte", "internal/bytealg.Index"], unfollowed := true, recurses := true, named := ["paxtar/ustar.fieldName", "paxtar/ustar.fieldLinkname", "paxtar/ustar.fieldPrefix", "paxtar/ustar.fieldMagic", "paxtar/ustar.fieldType", "paxtar/ustar.fieldMode", "paxtar/ustar.fieldSize", "paxtar/ustar.fieldUid", "paxtar/ustar.fieldGid", "paxtar/ustar.fieldMtime", "paxtar/ustar.fieldMajor", "paxtar/ustar.fieldMinor", "internal/bytealg.MaxLen"], apart := false, laid := [("paxtar/ustar.fieldName", laid_paxtar_ustar_fieldName), ("paxtar/ustar.fieldMode", laid_paxtar_ustar_fieldMode), ("paxtar/ustar.fieldUid", laid_paxtar_ustar_fieldUid), ("paxtar/ustar.fieldGid", laid_paxtar_ustar_fieldGid), ("paxtar/ustar.fieldSize", laid_paxtar_ustar_fieldSize), ("paxtar/ustar.fieldMtime", laid_paxtar_ustar_fieldMtime), ("paxtar/ustar.fieldType", laid_paxtar_ustar_fieldType), ("paxtar/ustar.fieldLinkname", laid_paxtar_ustar_fieldLinkname), ("paxtar/ustar.fieldMagic", laid_paxtar_ustar_fieldMagic), ("paxtar/ustar.fieldMajor", laid_paxtar_ustar_fieldMajor), ("paxtar/ustar.fieldMinor", laid_paxtar_ustar_fieldMinor), ("paxtar/ustar.fieldPrefix", laid_paxtar_ustar_fieldPrefix)] }
def UstarDecodeMatchesReferenceSaid : Prop := ustarDecodeMatchesReferenceRow.holds Tryd.pinned (OpenSpec.ofChange ustarDecodeMatchesReferenceSpec)

/-- ITS FALSE NEIGHBOUR: 'it returns false'. Refute it at one input. -/
def ustarDecodeMatchesReferenceWrong : ChangeSpec := { name := "ustarDecodeMatchesReference", fn := fun _ => fun
  | [d] => { results := [.lit (.bool false)], args := [d] }
  | _ => none }
def UstarDecodeMatchesReferenceWrongFalsely : Prop := ustarDecodeMatchesReferenceRow.holds Tryd.pinned (OpenSpec.ofChange ustarDecodeMatchesReferenceWrong)

/-- 'paxtarlaw07.UstarRoundTrip': WHATEVER THE INPUT: true; the input reads as it did. -/
def ustarRoundTripSpec : ChangeSpec := { name := "ustarRoundTrip", fn := fun _ => fun
  | [d1, d2] => { results := [.lit (.bool true)], args := [d1, d2] }
  | _ => none }
def ustarRoundTripRow : OpenClaim := { program := "ytlkkefiffjiliaadoor", sum := "b02888f5393dc3dcf0c229df692f51dc592a15d422ff146d0631b009a37d09b7", func := "paxtar/paxtarlaw07.UstarRoundTrip", spec := "ustarRoundTrip", inPlace := ["internal/bytealg.IndexByteString", "internal/bytealg.IndexByte", "internal/bytealg.Index"], unfollowed := true, recurses := true, named := ["paxtar/ustar.fieldName", "paxtar/ustar.fieldLinkname", "paxtar/ustar.fieldPrefix", "paxtar/ustar.fieldMagic", "paxtar/ustar.fieldType", "paxtar/ustar.fieldMode", "paxtar/ustar.fieldSize", "paxtar/ustar.fieldUid", "paxtar/ustar.fieldGid", "paxtar/ustar.fieldMtime", "paxtar/ustar.fieldMajor", "paxtar/ustar.fieldMinor", "internal/bytealg.MaxLen"], apart := false, laid := [("paxtar/ustar.fieldName", laid_paxtar_ustar_fieldName), ("paxtar/ustar.fieldMode", laid_paxtar_ustar_fieldMode), ("paxtar/ustar.fieldUid", laid_paxtar_ustar_fieldUid), ("paxtar/ustar.fieldGid", laid_paxtar_ustar_fieldGid), ("paxtar/ustar.fieldSize", laid_paxtar_ustar_fieldSize), ("paxtar/ustar.fieldMtime", laid_paxtar_ustar_fieldMtime), ("paxtar/ustar.fieldType", laid_paxtar_ustar_fieldType), ("paxtar/ustar.fieldLinkname", laid_paxtar_ustar_fieldLinkname), ("paxtar/ustar.fieldMagic", laid_paxtar_ustar_fieldMagic), ("paxtar/ustar.fieldMajor", laid_paxtar_ustar_fieldMajor), ("paxtar/ustar.fieldMinor", laid_paxtar_ustar_fieldMinor), ("paxtar/ustar.fieldPrefix", laid_paxtar_ustar_fieldPrefix)] }
def UstarRoundTripSaid : Prop := ustarRoundTripRow.holds Tryd.pinned (OpenSpec.ofChange ustarRoundTripSpec)

/-- ITS FALSE NEIGHBOUR: 'it returns false'. Refute it at one input. -/
def ustarRoundTripWrong : ChangeSpec := { name := "ustarRoundTrip", fn := fun _ => fun
  | [d1, d2] => { results := [.lit (.bool false)], args := [d1, d2] }
  | _ => none }
def UstarRoundTripWrongFalsely : Prop := ustarRoundTripRow.holds Tryd.pinned (OpenSpec.ofChange ustarRoundTripWrong)

/-- 'paxtarlaw07.UstarRejectsOneByte': WHATEVER THE INPUT: true; the input reads as it did. -/
def ustarRejectsOneByteSpec : ChangeSpec := { name := "ustarRejectsOneByte", fn := fun _ => fun
  | [d1, d2, d3] => { results := [.lit (.bool true)], args := [d1, d2, d3] }
  | _ => none }
def ustarRejectsOneByteRow : OpenClaim := { program := "ytlkkefiffjiliaadoor", sum := "b02888f5393dc3dcf0c229df692f51dc592a15d422ff146d0631b009a37d09b7", func := "paxtar/paxtarlaw07.UstarRejectsOneByte", spec := "ustarRejectsOneByte", inPlace := ["internal/bytealg.IndexByteString", "internal/bytealg.IndexByte", "internal/bytealg.Index"], unfollowed := true, recurses := true, named := ["paxtar/ustar.fieldName", "paxtar/ustar.fieldLinkname", "paxtar/ustar.fieldPrefix", "paxtar/ustar.fieldMagic", "paxtar/ustar.fieldType", "paxtar/ustar.fieldMode", "paxtar/ustar.fieldSize", "paxtar/ustar.fieldUid", "paxtar/ustar.fieldGid", "paxtar/ustar.fieldMtime", "paxtar/ustar.fieldMajor", "paxtar/ustar.fieldMinor", "internal/bytealg.MaxLen"], apart := false, laid := [("paxtar/ustar.fieldName", laid_paxtar_ustar_fieldName), ("paxtar/ustar.fieldMode", laid_paxtar_ustar_fieldMode), ("paxtar/ustar.fieldUid", laid_paxtar_ustar_fieldUid), ("paxtar/ustar.fieldGid", laid_paxtar_ustar_fieldGid), ("paxtar/ustar.fieldSize", laid_paxtar_ustar_fieldSize), ("paxtar/ustar.fieldMtime", laid_paxtar_ustar_fieldMtime), ("paxtar/ustar.fieldType", laid_paxtar_ustar_fieldType), ("paxtar/ustar.fieldLinkname", laid_paxtar_ustar_fieldLinkname), ("paxtar/ustar.fieldMagic", laid_paxtar_ustar_fieldMagic), ("paxtar/ustar.fieldMajor", laid_paxtar_ustar_fieldMajor), ("paxtar/ustar.fieldMinor", laid_paxtar_ustar_fieldMinor), ("paxtar/ustar.fieldPrefix", laid_paxtar_ustar_fieldPrefix)] }
def UstarRejectsOneByteSaid : Prop := ustarRejectsOneByteRow.holds Tryd.pinned (OpenSpec.ofChange ustarRejectsOneByteSpec)

/-- ITS FALSE NEIGHBOUR: 'it returns false'. Refute it at one input. -/
def ustarRejectsOneByteWrong : ChangeSpec := { name := "ustarRejectsOneByte", fn := fun _ => fun
  | [d1, d2, d3] => { results := [.lit (.bool false)], args := [d1, d2, d3] }
  | _ => none }
def UstarRejectsOneByteWrongFalsely : Prop := ustarRejectsOneByteRow.holds Tryd.pinned (OpenSpec.ofChange ustarRejectsOneByteWrong)

/- THE SECOND FORM. 'bulk': how many values and letters a reading holds, each counted each time it is reached (what is shared counts as often as it is met; a slice's spare places count too). A statement '..UptoSaid' is the law's where the arguments, and the package variables that the reading takes, are together of bulk at most 1048576: NARROWER than '..Said'. Prove '..Said' where nothing that the law and all that it calls make is longer than what came in: it says more and counts as full. Else prove '..UptoSaid'. A law counts once. -/
mutual
def uptoBulk {H : Type} : DataW H → Nat
  | .lit (.string bytes) => bytes.length + 1
  | .lit _ => 1
  | .nil => 1
  | .ptr d => uptoBulk d + 1
  | .slice elems spare => uptoBulkAll elems + uptoBulkAll spare + 1
  | .agg parts => uptoBulkAll parts + 1
  | .iface _ d => uptoBulk d + 1
  | .map entries => uptoBulkEntries entries + 1
  | .held _ => 1
def uptoBulkAll {H : Type} : List (DataW H) → Nat
  | [] => 0
  | d :: r => uptoBulk d + uptoBulkAll r
def uptoBulkEntries {H : Type} : List (Lit × DataW H) → Nat
  | [] => 0
  | x :: r => uptoBulkEntry x + uptoBulkEntries r
def uptoBulkEntry {H : Type} : Lit × DataW H → Nat
  | (.string bytes, d) => bytes.length + uptoBulk d + 1
  | (_, d) => uptoBulk d + 1
 end
def uptoSmall : (H : Type) → List (DataW H) → Bool := fun _ ds => decide (uptoBulkAll ds ≤ 1048576)
def OpenSpec.upto (s : _root_.Go.ChangeSpec) : _root_.Go.OpenSpec := { _root_.Go.OpenSpec.ofChange s with cond := some uptoSmall }

/-- 'paxtarlaw07.UstarEncodeMatchesReference', WHERE WHAT IT READS IS OF BULK AT MOST 1048576: true; the input reads as it did. -/
def ustarEncodeMatchesReferenceUptoRow : OpenClaim := { program := "ytlkkefiffjiliaadoor", sum := "b02888f5393dc3dcf0c229df692f51dc592a15d422ff146d0631b009a37d09b7", func := "paxtar/paxtarlaw07.UstarEncodeMatchesReference", spec := "ustarEncodeMatchesReference", inPlace := ["internal/bytealg.IndexByteString"], unfollowed := true, recurses := true, named := ["paxtar/ustar.fieldName", "paxtar/ustar.fieldLinkname", "paxtar/ustar.fieldPrefix", "paxtar/ustar.fieldMagic", "paxtar/ustar.fieldType", "paxtar/ustar.fieldMode", "paxtar/ustar.fieldSize", "paxtar/ustar.fieldUid", "paxtar/ustar.fieldGid", "paxtar/ustar.fieldMtime", "paxtar/ustar.fieldMajor", "paxtar/ustar.fieldMinor"], apart := false, laid := [("paxtar/ustar.fieldName", laid_paxtar_ustar_fieldName), ("paxtar/ustar.fieldMode", laid_paxtar_ustar_fieldMode), ("paxtar/ustar.fieldUid", laid_paxtar_ustar_fieldUid), ("paxtar/ustar.fieldGid", laid_paxtar_ustar_fieldGid), ("paxtar/ustar.fieldSize", laid_paxtar_ustar_fieldSize), ("paxtar/ustar.fieldMtime", laid_paxtar_ustar_fieldMtime), ("paxtar/ustar.fieldType", laid_paxtar_ustar_fieldType), ("paxtar/ustar.fieldLinkname", laid_paxtar_ustar_fieldLinkname), ("paxtar/ustar.fieldMagic", laid_paxtar_ustar_fieldMagic), ("paxtar/ustar.fieldMajor", laid_paxtar_ustar_fieldMajor), ("paxtar/ustar.fieldMinor", laid_paxtar_ustar_fieldMinor), ("paxtar/ustar.fieldPrefix", laid_paxtar_ustar_fieldPrefix)], narrowed := true }
def UstarEncodeMatchesReferenceUptoSaid : Prop := ustarEncodeMatchesReferenceUptoRow.holds Tryd.pinned (OpenSpec.upto ustarEncodeMatchesReferenceSpec)

/-- 'paxtarlaw07.UstarFields', WHERE WHAT IT READS IS OF BULK AT MOST 1048576: true; the input reads as it did. -/
def ustarFieldsUptoRow : OpenClaim := { program := "ytlkkefiffjiliaadoor", sum := "b02888f5393dc3dcf0c229df692f51dc592a15d422ff146d0631b009a37d09b7", func := "paxtar/paxtarlaw07.UstarFields", spec := "ustarFields", inPlace := ["internal/bytealg.IndexByteString"], unfollowed := true, recurses := true, named := ["paxtar/ustar.fieldName", "paxtar/ustar.fieldLinkname", "paxtar/ustar.fieldPrefix", "paxtar/ustar.fieldMagic", "paxtar/ustar.fieldType", "paxtar/ustar.fieldMode", "paxtar/ustar.fieldSize", "paxtar/ustar.fieldUid", "paxtar/ustar.fieldGid", "paxtar/ustar.fieldMtime", "paxtar/ustar.fieldMajor", "paxtar/ustar.fieldMinor"], apart := false, laid := [("paxtar/ustar.fieldName", laid_paxtar_ustar_fieldName), ("paxtar/ustar.fieldMode", laid_paxtar_ustar_fieldMode), ("paxtar/ustar.fieldUid", laid_paxtar_ustar_fieldUid), ("paxtar/ustar.fieldGid", laid_paxtar_ustar_fieldGid), ("paxtar/ustar.fieldSize", laid_paxtar_ustar_fieldSize), ("paxtar/ustar.fieldMtime", laid_paxtar_ustar_fieldMtime), ("paxtar/ustar.fieldType", laid_paxtar_ustar_fieldType), ("paxtar/ustar.fieldLinkname", laid_paxtar_ustar_fieldLinkname), ("paxtar/ustar.fieldMagic", laid_paxtar_ustar_fieldMagic), ("paxtar/ustar.fieldMajor", laid_paxtar_ustar_fieldMajor), ("paxtar/ustar.fieldMinor", laid_paxtar_ustar_fieldMinor), ("paxtar/ustar.fieldPrefix", laid_paxtar_ustar_fieldPrefix)], narrowed := true }
def UstarFieldsUptoSaid : Prop := ustarFieldsUptoRow.holds Tryd.pinned (OpenSpec.upto ustarFieldsSpec)

/-- 'paxtarlaw07.UstarLimits', WHERE WHAT IT READS IS OF BULK AT MOST 1048576: true; the input reads as it did. -/
def ustarLimitsUptoRow : OpenClaim := { program := "ytlkkefiffjiliaadoor", sum := "b02888f5393dc3dcf0c229df692f51dc592a15d422ff146d0631b009a37d09b7", func := "paxtar/paxtarlaw07.UstarLimits", spec := "ustarLimits", inPlace := ["internal/abi.NoEscape", "internal/bytealg.MakeNoZero", "internal/bytealg.IndexByteString"], unfollowed := true, recurses := true, named := ["paxtar/ustar.fieldName", "paxtar/ustar.fieldLinkname", "paxtar/ustar.fieldPrefix", "paxtar/ustar.fieldMagic", "paxtar/ustar.fieldType", "paxtar/ustar.fieldMode", "paxtar/ustar.fieldSize", "paxtar/ustar.fieldUid", "paxtar/ustar.fieldGid", "paxtar/ustar.fieldMtime", "paxtar/ustar.fieldMajor", "paxtar/ustar.fieldMinor"], apart := false, laid := [("paxtar/ustar.fieldName", laid_paxtar_ustar_fieldName), ("paxtar/ustar.fieldMode", laid_paxtar_ustar_fieldMode), ("paxtar/ustar.fieldUid", laid_paxtar_ustar_fieldUid), ("paxtar/ustar.fieldGid", laid_paxtar_ustar_fieldGid), ("paxtar/ustar.fieldSize", laid_paxtar_ustar_fieldSize), ("paxtar/ustar.fieldMtime", laid_paxtar_ustar_fieldMtime), ("paxtar/ustar.fieldType", laid_paxtar_ustar_fieldType), ("paxtar/ustar.fieldLinkname", laid_paxtar_ustar_fieldLinkname), ("paxtar/ustar.fieldMagic", laid_paxtar_ustar_fieldMagic), ("paxtar/ustar.fieldMajor", laid_paxtar_ustar_fieldMajor), ("paxtar/ustar.fieldMinor", laid_paxtar_ustar_fieldMinor), ("paxtar/ustar.fieldPrefix", laid_paxtar_ustar_fieldPrefix)], narrowed := true }
def UstarLimitsUptoSaid : Prop := ustarLimitsUptoRow.holds Tryd.pinned (OpenSpec.upto ustarLimitsSpec)

/-- 'paxtarlaw07.UstarDecodeMatchesReference', WHERE WHAT IT READS IS OF BULK AT MOST 1048576: true; the input reads as it did. -/
def ustarDecodeMatchesReferenceUptoRow : OpenClaim := { program := "ytlkkefiffjiliaadoor", sum := "b02888f5393dc3dcf0c229df692f51dc592a15d422ff146d0631b009a37d09b7", func := "paxtar/paxtarlaw07.UstarDecodeMatchesReference", spec := "ustarDecodeMatchesReference", inPlace := ["internal/bytealg.IndexByteString", "internal/bytealg.IndexByte", "internal/bytealg.Index"], unfollowed := true, recurses := true, named := ["paxtar/ustar.fieldName", "paxtar/ustar.fieldLinkname", "paxtar/ustar.fieldPrefix", "paxtar/ustar.fieldMagic", "paxtar/ustar.fieldType", "paxtar/ustar.fieldMode", "paxtar/ustar.fieldSize", "paxtar/ustar.fieldUid", "paxtar/ustar.fieldGid", "paxtar/ustar.fieldMtime", "paxtar/ustar.fieldMajor", "paxtar/ustar.fieldMinor", "internal/bytealg.MaxLen"], apart := false, laid := [("paxtar/ustar.fieldName", laid_paxtar_ustar_fieldName), ("paxtar/ustar.fieldMode", laid_paxtar_ustar_fieldMode), ("paxtar/ustar.fieldUid", laid_paxtar_ustar_fieldUid), ("paxtar/ustar.fieldGid", laid_paxtar_ustar_fieldGid), ("paxtar/ustar.fieldSize", laid_paxtar_ustar_fieldSize), ("paxtar/ustar.fieldMtime", laid_paxtar_ustar_fieldMtime), ("paxtar/ustar.fieldType", laid_paxtar_ustar_fieldType), ("paxtar/ustar.fieldLinkname", laid_paxtar_ustar_fieldLinkname), ("paxtar/ustar.fieldMagic", laid_paxtar_ustar_fieldMagic), ("paxtar/ustar.fieldMajor", laid_paxtar_ustar_fieldMajor), ("paxtar/ustar.fieldMinor", laid_paxtar_ustar_fieldMinor), ("paxtar/ustar.fieldPrefix", laid_paxtar_ustar_fieldPrefix)], narrowed := true }
def UstarDecodeMatchesReferenceUptoSaid : Prop := ustarDecodeMatchesReferenceUptoRow.holds Tryd.pinned (OpenSpec.upto ustarDecodeMatchesReferenceSpec)

/-- 'paxtarlaw07.UstarRoundTrip', WHERE WHAT IT READS IS OF BULK AT MOST 1048576: true; the input reads as it did. -/
def ustarRoundTripUptoRow : OpenClaim := { program := "ytlkkefiffjiliaadoor", sum := "b02888f5393dc3dcf0c229df692f51dc592a15d422ff146d0631b009a37d09b7", func := "paxtar/paxtarlaw07.UstarRoundTrip", spec := "ustarRoundTrip", inPlace := ["internal/bytealg.IndexByteString", "internal/bytealg.IndexByte", "internal/bytealg.Index"], unfollowed := true, recurses := true, named := ["paxtar/ustar.fieldName", "paxtar/ustar.fieldLinkname", "paxtar/ustar.fieldPrefix", "paxtar/ustar.fieldMagic", "paxtar/ustar.fieldType", "paxtar/ustar.fieldMode", "paxtar/ustar.fieldSize", "paxtar/ustar.fieldUid", "paxtar/ustar.fieldGid", "paxtar/ustar.fieldMtime", "paxtar/ustar.fieldMajor", "paxtar/ustar.fieldMinor", "internal/bytealg.MaxLen"], apart := false, laid := [("paxtar/ustar.fieldName", laid_paxtar_ustar_fieldName), ("paxtar/ustar.fieldMode", laid_paxtar_ustar_fieldMode), ("paxtar/ustar.fieldUid", laid_paxtar_ustar_fieldUid), ("paxtar/ustar.fieldGid", laid_paxtar_ustar_fieldGid), ("paxtar/ustar.fieldSize", laid_paxtar_ustar_fieldSize), ("paxtar/ustar.fieldMtime", laid_paxtar_ustar_fieldMtime), ("paxtar/ustar.fieldType", laid_paxtar_ustar_fieldType), ("paxtar/ustar.fieldLinkname", laid_paxtar_ustar_fieldLinkname), ("paxtar/ustar.fieldMagic", laid_paxtar_ustar_fieldMagic), ("paxtar/ustar.fieldMajor", laid_paxtar_ustar_fieldMajor), ("paxtar/ustar.fieldMinor", laid_paxtar_ustar_fieldMinor), ("paxtar/ustar.fieldPrefix", laid_paxtar_ustar_fieldPrefix)], narrowed := true }
def UstarRoundTripUptoSaid : Prop := ustarRoundTripUptoRow.holds Tryd.pinned (OpenSpec.upto ustarRoundTripSpec)

/-- 'paxtarlaw07.UstarRejectsOneByte', WHERE WHAT IT READS IS OF BULK AT MOST 1048576: true; the input reads as it did. -/
def ustarRejectsOneByteUptoRow : OpenClaim := { program := "ytlkkefiffjiliaadoor", sum := "b02888f5393dc3dcf0c229df692f51dc592a15d422ff146d0631b009a37d09b7", func := "paxtar/paxtarlaw07.UstarRejectsOneByte", spec := "ustarRejectsOneByte", inPlace := ["internal/bytealg.IndexByteString", "internal/bytealg.IndexByte", "internal/bytealg.Index"], unfollowed := true, recurses := true, named := ["paxtar/ustar.fieldName", "paxtar/ustar.fieldLinkname", "paxtar/ustar.fieldPrefix", "paxtar/ustar.fieldMagic", "paxtar/ustar.fieldType", "paxtar/ustar.fieldMode", "paxtar/ustar.fieldSize", "paxtar/ustar.fieldUid", "paxtar/ustar.fieldGid", "paxtar/ustar.fieldMtime", "paxtar/ustar.fieldMajor", "paxtar/ustar.fieldMinor", "internal/bytealg.MaxLen"], apart := false, laid := [("paxtar/ustar.fieldName", laid_paxtar_ustar_fieldName), ("paxtar/ustar.fieldMode", laid_paxtar_ustar_fieldMode), ("paxtar/ustar.fieldUid", laid_paxtar_ustar_fieldUid), ("paxtar/ustar.fieldGid", laid_paxtar_ustar_fieldGid), ("paxtar/ustar.fieldSize", laid_paxtar_ustar_fieldSize), ("paxtar/ustar.fieldMtime", laid_paxtar_ustar_fieldMtime), ("paxtar/ustar.fieldType", laid_paxtar_ustar_fieldType), ("paxtar/ustar.fieldLinkname", laid_paxtar_ustar_fieldLinkname), ("paxtar/ustar.fieldMagic", laid_paxtar_ustar_fieldMagic), ("paxtar/ustar.fieldMajor", laid_paxtar_ustar_fieldMajor), ("paxtar/ustar.fieldMinor", laid_paxtar_ustar_fieldMinor), ("paxtar/ustar.fieldPrefix", laid_paxtar_ustar_fieldPrefix)], narrowed := true }
def UstarRejectsOneByteUptoSaid : Prop := ustarRejectsOneByteUptoRow.holds Tryd.pinned (OpenSpec.upto ustarRejectsOneByteSpec)

end Rows
end Go.Proofs.YtlkkefiffjiliaaDoor
