/-
  No cell of these rows narrows 'for every input' (looked for: loops, veiled, ifaces, maps, wideKeys, modest, calm, conditions, laid).
  DERIVED. THE GIVEN ROWS OF THIS SEAT. 14 by the template 'for every input the law returns true; each argument reads behind the call as it read before'; 0 by the template 'total and deterministic' (their statements: YtlkkefiffjiliaaTotals.lean).
  GIVEN WITH THE SEED: the statements are not yours to turn. If you find one false, say at which input.
  Laid BY PROGRAM, IN A SANDBOX (cutbox-rows.mjs): the forced cells as the released guide's own fill.sh prints them over the translation 9550241d057f0b33… (all of the seat's roots in one cut). By AI agents, Wed Nov 11 2026. No macro, syntax, notation, axiom, sorry.
-/
import Derived.Test.YtlkkefiffjiliaaChecked
import GoSem.Claim
import GoSem.ClaimJoined
import GoSem.ClaimMapViews
import Derived.JoinedTies
import Derived.KernelRfl
namespace Go.Proofs.Ytlkkefiffjiliaa
/- THE CELL 'sum', in the pinned program and in every row, IS THE sha256 OF THE DUMP (.gsa) THAT YtlkkefiffjiliaaProg.lean LOADS. Nothing in Lean hashes anything: it is a label: what it is worth is what the hold of that sum in a sandbox is worth. -/
noncomputable def Try.pinned : Pinned := { name := "ytlkkefiffjiliaa", sum := "9550241d057f0b338d5df8a6f54a561b174a03c39cf7dcdb9c7cdca969a5bf6a", checked := Try.checked }
namespace Rows
def none {H : Type} : Left H := { results := [], args := [] }

/-- 'paxtarlaw02.CstringFormatMatchesReference': WHATEVER THE INPUT: true; the input reads as it did. -/
def cstringFormatMatchesReferenceSpec : ChangeSpec := { name := "cstringFormatMatchesReference", fn := fun _ => fun
  | [d1, d2] => { results := [.lit (.bool true)], args := [d1, d2] }
  | _ => none }
def cstringFormatMatchesReferenceRow : OpenClaim := { program := "ytlkkefiffjiliaa", sum := "9550241d057f0b338d5df8a6f54a561b174a03c39cf7dcdb9c7cdca969a5bf6a", func := "paxtar/paxtarlaw02.CstringFormatMatchesReference", spec := "cstringFormatMatchesReference", inPlace := ["internal/bytealg.IndexByteString"], apart := false }
def CstringFormatMatchesReferenceSaid : Prop := cstringFormatMatchesReferenceRow.holds Try.pinned (OpenSpec.ofChange cstringFormatMatchesReferenceSpec)

/-- ITS FALSE NEIGHBOUR: 'it returns false'. Refute it at one input. -/
def cstringFormatMatchesReferenceWrong : ChangeSpec := { name := "cstringFormatMatchesReference", fn := fun _ => fun
  | [d1, d2] => { results := [.lit (.bool false)], args := [d1, d2] }
  | _ => none }
def CstringFormatMatchesReferenceWrongFalsely : Prop := cstringFormatMatchesReferenceRow.holds Try.pinned (OpenSpec.ofChange cstringFormatMatchesReferenceWrong)

/-- 'paxtarlaw02.CstringMaximalWidth': WHATEVER THE INPUT: true; the input reads as it did. -/
def cstringMaximalWidthSpec : ChangeSpec := { name := "cstringMaximalWidth", fn := fun _ => fun
  | [d] => { results := [.lit (.bool true)], args := [d] }
  | _ => none }
def cstringMaximalWidthRow : OpenClaim := { program := "ytlkkefiffjiliaa", sum := "9550241d057f0b338d5df8a6f54a561b174a03c39cf7dcdb9c7cdca969a5bf6a", func := "paxtar/paxtarlaw02.CstringMaximalWidth", spec := "cstringMaximalWidth", inPlace := ["internal/abi.NoEscape", "internal/bytealg.MakeNoZero", "internal/bytealg.IndexByteString"], apart := false }
def CstringMaximalWidthSaid : Prop := cstringMaximalWidthRow.holds Try.pinned (OpenSpec.ofChange cstringMaximalWidthSpec)

/-- ITS FALSE NEIGHBOUR: 'it returns false'. Refute it at one input. -/
def cstringMaximalWidthWrong : ChangeSpec := { name := "cstringMaximalWidth", fn := fun _ => fun
  | [d] => { results := [.lit (.bool false)], args := [d] }
  | _ => none }
def CstringMaximalWidthWrongFalsely : Prop := cstringMaximalWidthRow.holds Try.pinned (OpenSpec.ofChange cstringMaximalWidthWrong)

/-- 'paxtarlaw02.CstringParseMatchesReference': WHATEVER THE INPUT: true; the input reads as it did. -/
def cstringParseMatchesReferenceSpec : ChangeSpec := { name := "cstringParseMatchesReference", fn := fun _ => fun
  | [d] => { results := [.lit (.bool true)], args := [d] }
  | _ => none }
def cstringParseMatchesReferenceRow : OpenClaim := { program := "ytlkkefiffjiliaa", sum := "9550241d057f0b338d5df8a6f54a561b174a03c39cf7dcdb9c7cdca969a5bf6a", func := "paxtar/paxtarlaw02.CstringParseMatchesReference", spec := "cstringParseMatchesReference", inPlace := ["internal/bytealg.IndexByteString", "internal/bytealg.IndexByte", "internal/bytealg.Index"], named := ["internal/bytealg.MaxLen"], apart := false }
def CstringParseMatchesReferenceSaid : Prop := cstringParseMatchesReferenceRow.holds Try.pinned (OpenSpec.ofChange cstringParseMatchesReferenceSpec)

/-- ITS FALSE NEIGHBOUR: 'it returns false'. Refute it at one input. -/
def cstringParseMatchesReferenceWrong : ChangeSpec := { name := "cstringParseMatchesReference", fn := fun _ => fun
  | [d] => { results := [.lit (.bool false)], args := [d] }
  | _ => none }
def CstringParseMatchesReferenceWrongFalsely : Prop := cstringParseMatchesReferenceRow.holds Try.pinned (OpenSpec.ofChange cstringParseMatchesReferenceWrong)

/-- 'paxtarlaw02.CstringRoundTrip': WHATEVER THE INPUT: true; the input reads as it did. -/
def cstringRoundTripSpec : ChangeSpec := { name := "cstringRoundTrip", fn := fun _ => fun
  | [d1, d2, d3] => { results := [.lit (.bool true)], args := [d1, d2, d3] }
  | _ => none }
def cstringRoundTripRow : OpenClaim := { program := "ytlkkefiffjiliaa", sum := "9550241d057f0b338d5df8a6f54a561b174a03c39cf7dcdb9c7cdca969a5bf6a", func := "paxtar/paxtarlaw02.CstringRoundTrip", spec := "cstringRoundTrip", inPlace := ["internal/bytealg.IndexByteString", "internal/bytealg.IndexByte", "internal/bytealg.Index"], named := ["internal/bytealg.MaxLen"], apart := false }
def CstringRoundTripSaid : Prop := cstringRoundTripRow.holds Try.pinned (OpenSpec.ofChange cstringRoundTripSpec)

/-- ITS FALSE NEIGHBOUR: 'it returns false'. Refute it at one input. -/
def cstringRoundTripWrong : ChangeSpec := { name := "cstringRoundTrip", fn := fun _ => fun
  | [d1, d2, d3] => { results := [.lit (.bool false)], args := [d1, d2, d3] }
  | _ => none }
def CstringRoundTripWrongFalsely : Prop := cstringRoundTripRow.holds Try.pinned (OpenSpec.ofChange cstringRoundTripWrong)

/-- 'paxtarlaw02.CstringPrefix': WHATEVER THE INPUT: true; the input reads as it did. -/
def cstringPrefixSpec : ChangeSpec := { name := "cstringPrefix", fn := fun _ => fun
  | [d1, d2, d3] => { results := [.lit (.bool true)], args := [d1, d2, d3] }
  | _ => none }
def cstringPrefixRow : OpenClaim := { program := "ytlkkefiffjiliaa", sum := "9550241d057f0b338d5df8a6f54a561b174a03c39cf7dcdb9c7cdca969a5bf6a", func := "paxtar/paxtarlaw02.CstringPrefix", spec := "cstringPrefix", inPlace := ["internal/bytealg.IndexByteString", "internal/bytealg.IndexByte", "internal/bytealg.Index"], named := ["internal/bytealg.MaxLen"], apart := false }
def CstringPrefixSaid : Prop := cstringPrefixRow.holds Try.pinned (OpenSpec.ofChange cstringPrefixSpec)

/-- ITS FALSE NEIGHBOUR: 'it returns false'. Refute it at one input. -/
def cstringPrefixWrong : ChangeSpec := { name := "cstringPrefix", fn := fun _ => fun
  | [d1, d2, d3] => { results := [.lit (.bool false)], args := [d1, d2, d3] }
  | _ => none }
def CstringPrefixWrongFalsely : Prop := cstringPrefixRow.holds Try.pinned (OpenSpec.ofChange cstringPrefixWrong)

/-- 'paxtarlaw02.CstringWidths': WHATEVER THE INPUT: true; the input reads as it did. -/
def cstringWidthsSpec : ChangeSpec := { name := "cstringWidths", fn := fun _ => fun
  | [d1, d2, d3] => { results := [.lit (.bool true)], args := [d1, d2, d3] }
  | _ => none }
def cstringWidthsRow : OpenClaim := { program := "ytlkkefiffjiliaa", sum := "9550241d057f0b338d5df8a6f54a561b174a03c39cf7dcdb9c7cdca969a5bf6a", func := "paxtar/paxtarlaw02.CstringWidths", spec := "cstringWidths", inPlace := ["internal/bytealg.IndexByteString", "internal/bytealg.IndexString", "internal/abi.NoEscape", "internal/bytealg.MakeNoZero"], named := ["internal/bytealg.MaxLen"], apart := false }
def CstringWidthsSaid : Prop := cstringWidthsRow.holds Try.pinned (OpenSpec.ofChange cstringWidthsSpec)

/-- ITS FALSE NEIGHBOUR: 'it returns false'. Refute it at one input. -/
def cstringWidthsWrong : ChangeSpec := { name := "cstringWidths", fn := fun _ => fun
  | [d1, d2, d3] => { results := [.lit (.bool false)], args := [d1, d2, d3] }
  | _ => none }
def CstringWidthsWrongFalsely : Prop := cstringWidthsRow.holds Try.pinned (OpenSpec.ofChange cstringWidthsWrong)

/-- 'paxtarlaw08.PathnameSplitUsesFirst': WHATEVER THE INPUT: true; the input reads as it did. -/
def pathnameSplitUsesFirstSpec : ChangeSpec := { name := "pathnameSplitUsesFirst", fn := fun _ => fun
  | [d] => { results := [.lit (.bool true)], args := [d] }
  | _ => none }
def pathnameSplitUsesFirstRow : OpenClaim := { program := "ytlkkefiffjiliaa", sum := "9550241d057f0b338d5df8a6f54a561b174a03c39cf7dcdb9c7cdca969a5bf6a", func := "paxtar/paxtarlaw08.PathnameSplitUsesFirst", spec := "pathnameSplitUsesFirst", inPlace := ["internal/bytealg.IndexByteString", "internal/bytealg.IndexString", "internal/abi.NoEscape", "internal/bytealg.MakeNoZero"], named := ["internal/bytealg.MaxLen"], apart := false }
def PathnameSplitUsesFirstSaid : Prop := pathnameSplitUsesFirstRow.holds Try.pinned (OpenSpec.ofChange pathnameSplitUsesFirstSpec)

/-- ITS FALSE NEIGHBOUR: 'it returns false'. Refute it at one input. -/
def pathnameSplitUsesFirstWrong : ChangeSpec := { name := "pathnameSplitUsesFirst", fn := fun _ => fun
  | [d] => { results := [.lit (.bool false)], args := [d] }
  | _ => none }
def PathnameSplitUsesFirstWrongFalsely : Prop := pathnameSplitUsesFirstRow.holds Try.pinned (OpenSpec.ofChange pathnameSplitUsesFirstWrong)

/-- 'paxtarlaw08.PathnameJoinInvertsSplit': WHATEVER THE INPUT: true; the input reads as it did. -/
def pathnameJoinInvertsSplitSpec : ChangeSpec := { name := "pathnameJoinInvertsSplit", fn := fun _ => fun
  | [d] => { results := [.lit (.bool true)], args := [d] }
  | _ => none }
def pathnameJoinInvertsSplitRow : OpenClaim := { program := "ytlkkefiffjiliaa", sum := "9550241d057f0b338d5df8a6f54a561b174a03c39cf7dcdb9c7cdca969a5bf6a", func := "paxtar/paxtarlaw08.PathnameJoinInvertsSplit", spec := "pathnameJoinInvertsSplit", inPlace := ["internal/abi.NoEscape", "internal/bytealg.MakeNoZero", "internal/bytealg.IndexByteString", "internal/bytealg.IndexString"], named := ["internal/bytealg.MaxLen"], apart := false }
def PathnameJoinInvertsSplitSaid : Prop := pathnameJoinInvertsSplitRow.holds Try.pinned (OpenSpec.ofChange pathnameJoinInvertsSplitSpec)

/-- ITS FALSE NEIGHBOUR: 'it returns false'. Refute it at one input. -/
def pathnameJoinInvertsSplitWrong : ChangeSpec := { name := "pathnameJoinInvertsSplit", fn := fun _ => fun
  | [d] => { results := [.lit (.bool false)], args := [d] }
  | _ => none }
def PathnameJoinInvertsSplitWrongFalsely : Prop := pathnameJoinInvertsSplitRow.holds Try.pinned (OpenSpec.ofChange pathnameJoinInvertsSplitWrong)

/-- 'paxtarlaw08.PathnameCompareIsTotalOrder': WHATEVER THE INPUT: true; the input reads as it did. -/
def pathnameCompareIsTotalOrderSpec : ChangeSpec := { name := "pathnameCompareIsTotalOrder", fn := fun _ => fun
  | [d1, d2, d3] => { results := [.lit (.bool true)], args := [d1, d2, d3] }
  | _ => none }
def pathnameCompareIsTotalOrderRow : OpenClaim := { program := "ytlkkefiffjiliaa", sum := "9550241d057f0b338d5df8a6f54a561b174a03c39cf7dcdb9c7cdca969a5bf6a", func := "paxtar/paxtarlaw08.PathnameCompareIsTotalOrder", spec := "pathnameCompareIsTotalOrder", inPlace := ["internal/abi.NoEscape", "internal/bytealg.MakeNoZero", "internal/bytealg.IndexByteString", "internal/bytealg.IndexString"], named := ["internal/bytealg.MaxLen"], apart := false }
def PathnameCompareIsTotalOrderSaid : Prop := pathnameCompareIsTotalOrderRow.holds Try.pinned (OpenSpec.ofChange pathnameCompareIsTotalOrderSpec)

/-- ITS FALSE NEIGHBOUR: 'it returns false'. Refute it at one input. -/
def pathnameCompareIsTotalOrderWrong : ChangeSpec := { name := "pathnameCompareIsTotalOrder", fn := fun _ => fun
  | [d1, d2, d3] => { results := [.lit (.bool false)], args := [d1, d2, d3] }
  | _ => none }
def PathnameCompareIsTotalOrderWrongFalsely : Prop := pathnameCompareIsTotalOrderRow.holds Try.pinned (OpenSpec.ofChange pathnameCompareIsTotalOrderWrong)

/-- 'paxtarlaw08.PathnameCompareMatchesReference': WHATEVER THE INPUT: true; the input reads as it did. -/
def pathnameCompareMatchesReferenceSpec : ChangeSpec := { name := "pathnameCompareMatchesReference", fn := fun _ => fun
  | [d1, d2] => { results := [.lit (.bool true)], args := [d1, d2] }
  | _ => none }
def pathnameCompareMatchesReferenceRow : OpenClaim := { program := "ytlkkefiffjiliaa", sum := "9550241d057f0b338d5df8a6f54a561b174a03c39cf7dcdb9c7cdca969a5bf6a", func := "paxtar/paxtarlaw08.PathnameCompareMatchesReference", spec := "pathnameCompareMatchesReference", inPlace := ["internal/abi.NoEscape", "internal/bytealg.MakeNoZero", "internal/bytealg.IndexByteString", "internal/bytealg.IndexString"], named := ["internal/bytealg.MaxLen"], apart := false }
def PathnameCompareMatchesReferenceSaid : Prop := pathnameCompareMatchesReferenceRow.holds Try.pinned (OpenSpec.ofChange pathnameCompareMatchesReferenceSpec)

/-- ITS FALSE NEIGHBOUR: 'it returns false'. Refute it at one input. -/
def pathnameCompareMatchesReferenceWrong : ChangeSpec := { name := "pathnameCompareMatchesReference", fn := fun _ => fun
  | [d1, d2] => { results := [.lit (.bool false)], args := [d1, d2] }
  | _ => none }
def PathnameCompareMatchesReferenceWrongFalsely : Prop := pathnameCompareMatchesReferenceRow.holds Try.pinned (OpenSpec.ofChange pathnameCompareMatchesReferenceWrong)

/-- 'paxtarlaw08.PathnameLengthLimit': WHATEVER THE INPUT: true; the input reads as it did. -/
def pathnameLengthLimitSpec : ChangeSpec := { name := "pathnameLengthLimit", fn := fun _ => fun
  | [d1, d2] => { results := [.lit (.bool true)], args := [d1, d2] }
  | _ => none }
def pathnameLengthLimitRow : OpenClaim := { program := "ytlkkefiffjiliaa", sum := "9550241d057f0b338d5df8a6f54a561b174a03c39cf7dcdb9c7cdca969a5bf6a", func := "paxtar/paxtarlaw08.PathnameLengthLimit", spec := "pathnameLengthLimit", inPlace := ["internal/abi.NoEscape", "internal/bytealg.MakeNoZero", "internal/bytealg.IndexByteString", "internal/bytealg.IndexString"], unfollowed := true, recurses := true, named := ["internal/bytealg.MaxLen"], apart := false }
def PathnameLengthLimitSaid : Prop := pathnameLengthLimitRow.holds Try.pinned (OpenSpec.ofChange pathnameLengthLimitSpec)

/-- ITS FALSE NEIGHBOUR: 'it returns false'. Refute it at one input. -/
def pathnameLengthLimitWrong : ChangeSpec := { name := "pathnameLengthLimit", fn := fun _ => fun
  | [d1, d2] => { results := [.lit (.bool false)], args := [d1, d2] }
  | _ => none }
def PathnameLengthLimitWrongFalsely : Prop := pathnameLengthLimitRow.holds Try.pinned (OpenSpec.ofChange pathnameLengthLimitWrong)

/-- 'paxtarlaw08.PathnameMatchesReference': WHATEVER THE INPUT: true; the input reads as it did. -/
def pathnameMatchesReferenceSpec : ChangeSpec := { name := "pathnameMatchesReference", fn := fun _ => fun
  | [d] => { results := [.lit (.bool true)], args := [d] }
  | _ => none }
def pathnameMatchesReferenceRow : OpenClaim := { program := "ytlkkefiffjiliaa", sum := "9550241d057f0b338d5df8a6f54a561b174a03c39cf7dcdb9c7cdca969a5bf6a", func := "paxtar/paxtarlaw08.PathnameMatchesReference", spec := "pathnameMatchesReference", inPlace := ["internal/abi.NoEscape", "internal/bytealg.MakeNoZero", "internal/bytealg.IndexByteString", "internal/bytealg.IndexString"], unfollowed := true, recurses := true, named := ["internal/bytealg.MaxLen"], apart := false }
def PathnameMatchesReferenceSaid : Prop := pathnameMatchesReferenceRow.holds Try.pinned (OpenSpec.ofChange pathnameMatchesReferenceSpec)

/-- ITS FALSE NEIGHBOUR: 'it returns false'. Refute it at one input. -/
def pathnameMatchesReferenceWrong : ChangeSpec := { name := "pathnameMatchesReference", fn := fun _ => fun
  | [d] => { results := [.lit (.bool false)], args := [d] }
  | _ => none }
def PathnameMatchesReferenceWrongFalsely : Prop := pathnameMatchesReferenceRow.holds Try.pinned (OpenSpec.ofChange pathnameMatchesReferenceWrong)

/-- 'paxtarlaw08.PathnameComponents': WHATEVER THE INPUT: true; the input reads as it did. -/
def pathnameComponentsSpec : ChangeSpec := { name := "pathnameComponents", fn := fun _ => fun
  | [d1, d2] => { results := [.lit (.bool true)], args := [d1, d2] }
  | _ => none }
def pathnameComponentsRow : OpenClaim := { program := "ytlkkefiffjiliaa", sum := "9550241d057f0b338d5df8a6f54a561b174a03c39cf7dcdb9c7cdca969a5bf6a", func := "paxtar/paxtarlaw08.PathnameComponents", spec := "pathnameComponents", inPlace := ["internal/bytealg.IndexByteString", "internal/bytealg.IndexString", "internal/abi.NoEscape", "internal/bytealg.MakeNoZero"], unfollowed := true, recurses := true, named := ["internal/bytealg.MaxLen"], apart := false }
def PathnameComponentsSaid : Prop := pathnameComponentsRow.holds Try.pinned (OpenSpec.ofChange pathnameComponentsSpec)

/-- ITS FALSE NEIGHBOUR: 'it returns false'. Refute it at one input. -/
def pathnameComponentsWrong : ChangeSpec := { name := "pathnameComponents", fn := fun _ => fun
  | [d1, d2] => { results := [.lit (.bool false)], args := [d1, d2] }
  | _ => none }
def PathnameComponentsWrongFalsely : Prop := pathnameComponentsRow.holds Try.pinned (OpenSpec.ofChange pathnameComponentsWrong)

/-- 'paxtarlaw08.PathnameParents': WHATEVER THE INPUT: true; the input reads as it did. -/
def pathnameParentsSpec : ChangeSpec := { name := "pathnameParents", fn := fun _ => fun
  | [d] => { results := [.lit (.bool true)], args := [d] }
  | _ => none }
def pathnameParentsRow : OpenClaim := { program := "ytlkkefiffjiliaa", sum := "9550241d057f0b338d5df8a6f54a561b174a03c39cf7dcdb9c7cdca969a5bf6a", func := "paxtar/paxtarlaw08.PathnameParents", spec := "pathnameParents", inPlace := ["internal/bytealg.IndexByteString", "internal/bytealg.IndexString", "internal/abi.NoEscape", "internal/bytealg.MakeNoZero"], unfollowed := true, recurses := true, named := ["internal/bytealg.MaxLen"], apart := false }
def PathnameParentsSaid : Prop := pathnameParentsRow.holds Try.pinned (OpenSpec.ofChange pathnameParentsSpec)

/-- ITS FALSE NEIGHBOUR: 'it returns false'. Refute it at one input. -/
def pathnameParentsWrong : ChangeSpec := { name := "pathnameParents", fn := fun _ => fun
  | [d] => { results := [.lit (.bool false)], args := [d] }
  | _ => none }
def PathnameParentsWrongFalsely : Prop := pathnameParentsRow.holds Try.pinned (OpenSpec.ofChange pathnameParentsWrong)

/- THE SECOND FORM. 'bulk': how many values and letters a reading holds, each counted each time it is reached (what is shared counts as often as it is met; a slice's spare places count too). A statement '..UptoSaid' is the law's where the arguments, and the package variables that the reading takes, are together of bulk at most 1048576: NARROWER than '..Said'. Prove '..Said' where nothing that the law and all that it calls make is longer than what came in: it says more and counts as full. Else prove '..UptoSaid'. A law counts once. -/
mutual
def uptoBulk {H : Type} : DataW H → Nat
  | .lit (.string bytes) => bytes.length + 1
  | .lit _ => 1
  | .nil => 1
  | .ptr d => uptoBulk d + 1
  | .slice elems spare => uptoBulkAll elems + uptoBulkAll spare + 1
  | .agg parts => uptoBulkAll parts + 1
  | .iface _ d => uptoBulk d + 1
  | .map entries => uptoBulkEntries entries + 1
  | .held _ => 1
def uptoBulkAll {H : Type} : List (DataW H) → Nat
  | [] => 0
  | d :: r => uptoBulk d + uptoBulkAll r
def uptoBulkEntries {H : Type} : List (Lit × DataW H) → Nat
  | [] => 0
  | x :: r => uptoBulkEntry x + uptoBulkEntries r
def uptoBulkEntry {H : Type} : Lit × DataW H → Nat
  | (.string bytes, d) => bytes.length + uptoBulk d + 1
  | (_, d) => uptoBulk d + 1
 end
def uptoSmall : (H : Type) → List (DataW H) → Bool := fun _ ds => decide (uptoBulkAll ds ≤ 1048576)
def OpenSpec.upto (s : _root_.Go.ChangeSpec) : _root_.Go.OpenSpec := { _root_.Go.OpenSpec.ofChange s with cond := some uptoSmall }

/-- 'paxtarlaw02.CstringFormatMatchesReference', WHERE WHAT IT READS IS OF BULK AT MOST 1048576: true; the input reads as it did. -/
def cstringFormatMatchesReferenceUptoRow : OpenClaim := { program := "ytlkkefiffjiliaa", sum := "9550241d057f0b338d5df8a6f54a561b174a03c39cf7dcdb9c7cdca969a5bf6a", func := "paxtar/paxtarlaw02.CstringFormatMatchesReference", spec := "cstringFormatMatchesReference", inPlace := ["internal/bytealg.IndexByteString"], apart := false, narrowed := true }
def CstringFormatMatchesReferenceUptoSaid : Prop := cstringFormatMatchesReferenceUptoRow.holds Try.pinned (OpenSpec.upto cstringFormatMatchesReferenceSpec)

/-- 'paxtarlaw02.CstringMaximalWidth', WHERE WHAT IT READS IS OF BULK AT MOST 1048576: true; the input reads as it did. -/
def cstringMaximalWidthUptoRow : OpenClaim := { program := "ytlkkefiffjiliaa", sum := "9550241d057f0b338d5df8a6f54a561b174a03c39cf7dcdb9c7cdca969a5bf6a", func := "paxtar/paxtarlaw02.CstringMaximalWidth", spec := "cstringMaximalWidth", inPlace := ["internal/abi.NoEscape", "internal/bytealg.MakeNoZero", "internal/bytealg.IndexByteString"], apart := false, narrowed := true }
def CstringMaximalWidthUptoSaid : Prop := cstringMaximalWidthUptoRow.holds Try.pinned (OpenSpec.upto cstringMaximalWidthSpec)

/-- 'paxtarlaw02.CstringParseMatchesReference', WHERE WHAT IT READS IS OF BULK AT MOST 1048576: true; the input reads as it did. -/
def cstringParseMatchesReferenceUptoRow : OpenClaim := { program := "ytlkkefiffjiliaa", sum := "9550241d057f0b338d5df8a6f54a561b174a03c39cf7dcdb9c7cdca969a5bf6a", func := "paxtar/paxtarlaw02.CstringParseMatchesReference", spec := "cstringParseMatchesReference", inPlace := ["internal/bytealg.IndexByteString", "internal/bytealg.IndexByte", "internal/bytealg.Index"], named := ["internal/bytealg.MaxLen"], apart := false, narrowed := true }
def CstringParseMatchesReferenceUptoSaid : Prop := cstringParseMatchesReferenceUptoRow.holds Try.pinned (OpenSpec.upto cstringParseMatchesReferenceSpec)

/-- 'paxtarlaw02.CstringRoundTrip', WHERE WHAT IT READS IS OF BULK AT MOST 1048576: true; the input reads as it did. -/
def cstringRoundTripUptoRow : OpenClaim := { program := "ytlkkefiffjiliaa", sum := "9550241d057f0b338d5df8a6f54a561b174a03c39cf7dcdb9c7cdca969a5bf6a", func := "paxtar/paxtarlaw02.CstringRoundTrip", spec := "cstringRoundTrip", inPlace := ["internal/bytealg.IndexByteString", "internal/bytealg.IndexByte", "internal/bytealg.Index"], named := ["internal/bytealg.MaxLen"], apart := false, narrowed := true }
def CstringRoundTripUptoSaid : Prop := cstringRoundTripUptoRow.holds Try.pinned (OpenSpec.upto cstringRoundTripSpec)

/-- 'paxtarlaw02.CstringPrefix', WHERE WHAT IT READS IS OF BULK AT MOST 1048576: true; the input reads as it did. -/
def cstringPrefixUptoRow : OpenClaim := { program := "ytlkkefiffjiliaa", sum := "9550241d057f0b338d5df8a6f54a561b174a03c39cf7dcdb9c7cdca969a5bf6a", func := "paxtar/paxtarlaw02.CstringPrefix", spec := "cstringPrefix", inPlace := ["internal/bytealg.IndexByteString", "internal/bytealg.IndexByte", "internal/bytealg.Index"], named := ["internal/bytealg.MaxLen"], apart := false, narrowed := true }
def CstringPrefixUptoSaid : Prop := cstringPrefixUptoRow.holds Try.pinned (OpenSpec.upto cstringPrefixSpec)

/-- 'paxtarlaw02.CstringWidths', WHERE WHAT IT READS IS OF BULK AT MOST 1048576: true; the input reads as it did. -/
def cstringWidthsUptoRow : OpenClaim := { program := "ytlkkefiffjiliaa", sum := "9550241d057f0b338d5df8a6f54a561b174a03c39cf7dcdb9c7cdca969a5bf6a", func := "paxtar/paxtarlaw02.CstringWidths", spec := "cstringWidths", inPlace := ["internal/bytealg.IndexByteString", "internal/bytealg.IndexString", "internal/abi.NoEscape", "internal/bytealg.MakeNoZero"], named := ["internal/bytealg.MaxLen"], apart := false, narrowed := true }
def CstringWidthsUptoSaid : Prop := cstringWidthsUptoRow.holds Try.pinned (OpenSpec.upto cstringWidthsSpec)

/-- 'paxtarlaw08.PathnameSplitUsesFirst', WHERE WHAT IT READS IS OF BULK AT MOST 1048576: true; the input reads as it did. -/
def pathnameSplitUsesFirstUptoRow : OpenClaim := { program := "ytlkkefiffjiliaa", sum := "9550241d057f0b338d5df8a6f54a561b174a03c39cf7dcdb9c7cdca969a5bf6a", func := "paxtar/paxtarlaw08.PathnameSplitUsesFirst", spec := "pathnameSplitUsesFirst", inPlace := ["internal/bytealg.IndexByteString", "internal/bytealg.IndexString", "internal/abi.NoEscape", "internal/bytealg.MakeNoZero"], named := ["internal/bytealg.MaxLen"], apart := false, narrowed := true }
def PathnameSplitUsesFirstUptoSaid : Prop := pathnameSplitUsesFirstUptoRow.holds Try.pinned (OpenSpec.upto pathnameSplitUsesFirstSpec)

/-- 'paxtarlaw08.PathnameJoinInvertsSplit', WHERE WHAT IT READS IS OF BULK AT MOST 1048576: true; the input reads as it did. -/
def pathnameJoinInvertsSplitUptoRow : OpenClaim := { program := "ytlkkefiffjiliaa", sum := "9550241d057f0b338d5df8a6f54a561b174a03c39cf7dcdb9c7cdca969a5bf6a", func := "paxtar/paxtarlaw08.PathnameJoinInvertsSplit", spec := "pathnameJoinInvertsSplit", inPlace := ["internal/abi.NoEscape", "internal/bytealg.MakeNoZero", "internal/bytealg.IndexByteString", "internal/bytealg.IndexString"], named := ["internal/bytealg.MaxLen"], apart := false, narrowed := true }
def PathnameJoinInvertsSplitUptoSaid : Prop := pathnameJoinInvertsSplitUptoRow.holds Try.pinned (OpenSpec.upto pathnameJoinInvertsSplitSpec)

/-- 'paxtarlaw08.PathnameCompareIsTotalOrder', WHERE WHAT IT READS IS OF BULK AT MOST 1048576: true; the input reads as it did. -/
def pathnameCompareIsTotalOrderUptoRow : OpenClaim := { program := "ytlkkefiffjiliaa", sum := "9550241d057f0b338d5df8a6f54a561b174a03c39cf7dcdb9c7cdca969a5bf6a", func := "paxtar/paxtarlaw08.PathnameCompareIsTotalOrder", spec := "pathnameCompareIsTotalOrder", inPlace := ["internal/abi.NoEscape", "internal/bytealg.MakeNoZero", "internal/bytealg.IndexByteString", "internal/bytealg.IndexString"], named := ["internal/bytealg.MaxLen"], apart := false, narrowed := true }
def PathnameCompareIsTotalOrderUptoSaid : Prop := pathnameCompareIsTotalOrderUptoRow.holds Try.pinned (OpenSpec.upto pathnameCompareIsTotalOrderSpec)

/-- 'paxtarlaw08.PathnameCompareMatchesReference', WHERE WHAT IT READS IS OF BULK AT MOST 1048576: true; the input reads as it did. -/
def pathnameCompareMatchesReferenceUptoRow : OpenClaim := { program := "ytlkkefiffjiliaa", sum := "9550241d057f0b338d5df8a6f54a561b174a03c39cf7dcdb9c7cdca969a5bf6a", func := "paxtar/paxtarlaw08.PathnameCompareMatchesReference", spec := "pathnameCompareMatchesReference", inPlace := ["internal/abi.NoEscape", "internal/bytealg.MakeNoZero", "internal/bytealg.IndexByteString", "internal/bytealg.IndexString"], named := ["internal/bytealg.MaxLen"], apart := false, narrowed := true }
def PathnameCompareMatchesReferenceUptoSaid : Prop := pathnameCompareMatchesReferenceUptoRow.holds Try.pinned (OpenSpec.upto pathnameCompareMatchesReferenceSpec)

/-- 'paxtarlaw08.PathnameLengthLimit', WHERE WHAT IT READS IS OF BULK AT MOST 1048576: true; the input reads as it did. -/
def pathnameLengthLimitUptoRow : OpenClaim := { program := "ytlkkefiffjiliaa", sum := "9550241d057f0b338d5df8a6f54a561b174a03c39cf7dcdb9c7cdca969a5bf6a", func := "paxtar/paxtarlaw08.PathnameLengthLimit", spec := "pathnameLengthLimit", inPlace := ["internal/abi.NoEscape", "internal/bytealg.MakeNoZero", "internal/bytealg.IndexByteString", "internal/bytealg.IndexString"], unfollowed := true, recurses := true, named := ["internal/bytealg.MaxLen"], apart := false, narrowed := true }
def PathnameLengthLimitUptoSaid : Prop := pathnameLengthLimitUptoRow.holds Try.pinned (OpenSpec.upto pathnameLengthLimitSpec)

/-- 'paxtarlaw08.PathnameMatchesReference', WHERE WHAT IT READS IS OF BULK AT MOST 1048576: true; the input reads as it did. -/
def pathnameMatchesReferenceUptoRow : OpenClaim := { program := "ytlkkefiffjiliaa", sum := "9550241d057f0b338d5df8a6f54a561b174a03c39cf7dcdb9c7cdca969a5bf6a", func := "paxtar/paxtarlaw08.PathnameMatchesReference", spec := "pathnameMatchesReference", inPlace := ["internal/abi.NoEscape", "internal/bytealg.MakeNoZero", "internal/bytealg.IndexByteString", "internal/bytealg.IndexString"], unfollowed := true, recurses := true, named := ["internal/bytealg.MaxLen"], apart := false, narrowed := true }
def PathnameMatchesReferenceUptoSaid : Prop := pathnameMatchesReferenceUptoRow.holds Try.pinned (OpenSpec.upto pathnameMatchesReferenceSpec)

/-- 'paxtarlaw08.PathnameComponents', WHERE WHAT IT READS IS OF BULK AT MOST 1048576: true; the input reads as it did. -/
def pathnameComponentsUptoRow : OpenClaim := { program := "ytlkkefiffjiliaa", sum := "9550241d057f0b338d5df8a6f54a561b174a03c39cf7dcdb9c7cdca969a5bf6a", func := "paxtar/paxtarlaw08.PathnameComponents", spec := "pathnameComponents", inPlace := ["internal/bytealg.IndexByteString", "internal/bytealg.IndexString", "internal/abi.NoEscape", "internal/bytealg.MakeNoZero"], unfollowed := true, recurses := true, named := ["internal/bytealg.MaxLen"], apart := false, narrowed := true }
def PathnameComponentsUptoSaid : Prop := pathnameComponentsUptoRow.holds Try.pinned (OpenSpec.upto pathnameComponentsSpec)

/-- 'paxtarlaw08.PathnameParents', WHERE WHAT IT READS IS OF BULK AT MOST 1048576: true; the input reads as it did. -/
def pathnameParentsUptoRow : OpenClaim := { program := "ytlkkefiffjiliaa", sum := "9550241d057f0b338d5df8a6f54a561b174a03c39cf7dcdb9c7cdca969a5bf6a", func := "paxtar/paxtarlaw08.PathnameParents", spec := "pathnameParents", inPlace := ["internal/bytealg.IndexByteString", "internal/bytealg.IndexString", "internal/abi.NoEscape", "internal/bytealg.MakeNoZero"], unfollowed := true, recurses := true, named := ["internal/bytealg.MaxLen"], apart := false, narrowed := true }
def PathnameParentsUptoSaid : Prop := pathnameParentsUptoRow.holds Try.pinned (OpenSpec.upto pathnameParentsSpec)

end Rows
end Go.Proofs.Ytlkkefiffjiliaa
