/-
  NARROWER THAN 'FOR EVERY INPUT', by the rows' own cells (each row's printed sentence says how): TreeRemoveNode: laid · TreeClassesMustAgree: laid · TreeCheckMatchesReference: laid · TreeAddNode: laid · TreeIsolated: laid · TreeCanonMatchesReference: laid · TreeCanonIsCanonical: laid.
  DERIVED. THE GIVEN ROWS OF THIS SEAT. 7 by the template 'for every input the law returns true; each argument reads behind the call as it read before'; 0 by the template 'total and deterministic' (their statements: YtolfadbbhocikaaDoorTotals.lean).
  GIVEN WITH THE SEED: the statements are not yours to turn. If you find one false, say at which input.
  Laid BY PROGRAM, IN A SANDBOX (cutbox-rows.mjs): the forced cells as the released guide's own fill.sh prints them over the translation 63be54351298e8fb… (all of the seat's roots in one cut). By AI agents, Wed Nov 11 2026. No macro, syntax, notation, axiom, sorry.
-/
import Derived.Test.YtolfadbbhocikaaDoorChecked
import GoSem.Claim
import GoSem.ClaimJoined
import GoSem.ClaimMapViews
import Derived.JoinedTies
import Derived.KernelRfl
namespace Go.Proofs.YtolfadbbhocikaaDoor
/- THE CELL 'sum', in the pinned program and in every row, IS THE sha256 OF THE DUMP (.gsa) THAT YtolfadbbhocikaaDoorProg.lean LOADS. Nothing in Lean hashes anything: it is a label: what it is worth is what the hold of that sum in a sandbox is worth. -/
noncomputable def Tryd.pinned : Pinned := { name := "ytolfadbbhocikaadoor", sum := "63be54351298e8fb101bf43521559707daa6a5eb5241fc1824c1e237b2258e16", checked := Tryd.checked }
namespace Rows
def none {H : Type} : Left H := { results := [], args := [] }

/- WHAT THE LISTED PACKAGE-LEVEL VARIABLES READ AS WHEN THE CALL BEGINS. Each datum BY PROGRAM (the guide's laid-datum.mjs) off the statement by which the dump's own 'gosem.cut.vars' lays the variable. In a bare row this is a premise. The card (YtolfadbbhocikaaDoorCards.lean) ties it to the program's text. -/
def laid_math_bits_deBruijn32tab {H : Type} : DataW H := .agg [.lit (.int .u8 0), .lit (.int .u8 1), .lit (.int .u8 28), .lit (.int .u8 2), .lit (.int .u8 29), .lit (.int .u8 14), .lit (.int .u8 24), .lit (.int .u8 3), .lit (.int .u8 30), .lit (.int .u8 22), .lit (.int .u8 20), .lit (.int .u8 15), .lit (.int .u8 25), .lit (.int .u8 17), .lit (.int .u8 4), .lit (.int .u8 8), .lit (.int .u8 31), .lit (.int .u8 27), .lit (.int .u8 13), .lit (.int .u8 23), .lit (.int .u8 21), .lit (.int .u8 19), .lit (.int .u8 16), .lit (.int .u8 7), .lit (.int .u8 26), .lit (.int .u8 12), .lit (.int .u8 18), .lit (.int .u8 6), .lit (.int .u8 11), .lit (.int .u8 5), .lit (.int .u8 10), .lit (.int .u8 9)]
def laid_math_bits_deBruijn64tab {H : Type} : DataW H := .agg [.lit (.int .u8 0), .lit (.int .u8 1), .lit (.int .u8 56), .lit (.int .u8 2), .lit (.int .u8 57), .lit (.int .u8 49), .lit (.int .u8 28), .lit (.int .u8 3), .lit (.int .u8 61), .lit (.int .u8 58), .lit (.int .u8 42), .lit (.int .u8 50), .lit (.int .u8 38), .lit (.int .u8 29), .lit (.int .u8 17), .lit (.int .u8 4), .lit (.int .u8 62), .lit (.int .u8 47), .lit (.int .u8 59), .lit (.int .u8 36), .lit (.int .u8 45), .lit (.int .u8 43), .lit (.int .u8 51), .lit (.int .u8 22), .lit (.int .u8 53), .lit (.int .u8 39), .lit (.int .u8 33), .lit (.int .u8 30), .lit (.int .u8 24), .lit (.int .u8 18), .lit (.int .u8 12), .lit (.int .u8 5), .lit (.int .u8 63), .lit (.int .u8 55), .lit (.int .u8 48), .lit (.int .u8 27), .lit (.int .u8 60), .lit (.int .u8 41), .lit (.int .u8 37), .lit (.int .u8 16), .lit (.int .u8 46), .lit (.int .u8 35), .lit (.int .u8 44), .lit (.int .u8 21), .lit (.int .u8 52), .lit (.int .u8 32), .lit (.int .u8 23), .lit (.int .u8 11), .lit (.int .u8 54), .lit (.int .u8 26), .lit (.int .u8 40), .lit (.int .u8 15), .lit (.int .u8 34), .lit (.int .u8 20), .lit (.int .u8 31), .lit (.int .u8 10), .lit (.int .u8 25), .lit (.int .u8 14), .lit (.int .u8 19), .lit (.int .u8 9), .lit (.int .u8 13), .lit (.int .u8 8), .lit (.int .u8 7), .lit (.int .u8 6)]
def laid_internal_strconv_uint64pow10 {H : Type} : DataW H := .agg [.lit (.int .u64 1), .lit (.int .u64 10), .lit (.int .u64 100), .lit (.int .u64 1000), .lit (.int .u64 10000), .lit (.int .u64 100000), .lit (.int .u64 1000000), .lit (.int .u64 10000000), .lit (.int .u64 100000000), .lit (.int .u64 1000000000), .lit (.int .u64 10000000000), .lit (.int .u64 100000000000), .lit (.int .u64 1000000000000), .lit (.int .u64 10000000000000), .lit (.int .u64 100000000000000), .lit (.int .u64 1000000000000000), .lit (.int .u64 10000000000000000), .lit (.int .u64 100000000000000000), .lit (.int .u64 1000000000000000000), .lit (.int .u64 10000000000000000000)]
def laid_strconv_ErrRange {H : Type} : DataW H := .iface "*errors.errorString" (.ptr (.agg [.lit (.string [118, 97, 108, 117, 101, 32, 111, 117, 116, 32, 111, 102, 32, 114, 97, 110, 103, 101])]))
def laid_strconv_ErrSyntax {H : Type} : DataW H := .iface "*errors.errorString" (.ptr (.agg [.lit (.string [105, 110, 118, 97, 108, 105, 100, 32, 115, 121, 110, 116, 97, 120])]))
def laid_paxtar_paxrec_keys {H : Type} : DataW H := .agg [.lit (.string [108, 105, 110, 107, 112, 97, 116, 104]), .lit (.string [112, 97, 116, 104]), .lit (.string [115, 105, 122, 101])]

/-- 'paxtarlaw13.TreeRemoveNode': WHATEVER THE INPUT: true; the input reads as it did. -/
def treeRemoveNodeSpec : ChangeSpec := { name := "treeRemoveNode", fn := fun _ => fun
  | [d1, d2] => { results := [.lit (.bool true)], args := [d1, d2] }
  | _ => none }
def treeRemoveNodeRow : OpenClaim := { program := "ytolfadbbhocikaadoor", sum := "63be54351298e8fb101bf43521559707daa6a5eb5241fc1824c1e237b2258e16", func := "paxtar/paxtarlaw13.TreeRemoveNode", spec := "treeRemoveNode", inPlace := ["internal/bytealg.IndexByteString", "internal/bytealg.IndexString"], unfollowed := true, recurses := true, named := ["internal/bytealg.MaxLen", "paxtar/paxrec.keys", "strconv.ErrSyntax", "strconv.ErrRange", "internal/strconv.uint64pow10", "math/bits.deBruijn32tab", "math/bits.deBruijn64tab"], apart := false, laid := [("math/bits.deBruijn32tab", laid_math_bits_deBruijn32tab), ("math/bits.deBruijn64tab", laid_math_bits_deBruijn64tab), ("internal/strconv.uint64pow10", laid_internal_strconv_uint64pow10), ("strconv.ErrRange", laid_strconv_ErrRange), ("strconv.ErrSyntax", laid_strconv_ErrSyntax), ("paxtar/paxrec.keys", laid_paxtar_paxrec_keys)] }
def TreeRemoveNodeSaid : Prop := treeRemoveNodeRow.holds Tryd.pinned (OpenSpec.ofChange treeRemoveNodeSpec)

/-- ITS FALSE NEIGHBOUR: 'it returns false'. Refute it at one input. -/
def treeRemoveNodeWrong : ChangeSpec := { name := "treeRemoveNode", fn := fun _ => fun
  | [d1, d2] => { results := [.lit (.bool false)], args := [d1, d2] }
  | _ => none }
def TreeRemoveNodeWrongFalsely : Prop := treeRemoveNodeRow.holds Tryd.pinned (OpenSpec.ofChange treeRemoveNodeWrong)

/-- 'paxtarlaw13.TreeClassesMustAgree': WHATEVER THE INPUT: true; the input reads as it did. -/
def treeClassesMustAgreeSpec : ChangeSpec := { name := "treeClassesMustAgree", fn := fun _ => fun
  | [d1, d2, d3] => { results := [.lit (.bool true)], args := [d1, d2, d3] }
  | _ => none }
def treeClassesMustAgreeRow : OpenClaim := { program := "ytolfadbbhocikaadoor", sum := "63be54351298e8fb101bf43521559707daa6a5eb5241fc1824c1e237b2258e16", func := "paxtar/paxtarlaw13.TreeClassesMustAgree", spec := "treeClassesMustAgree", inPlace := ["internal/bytealg.IndexByteString", "internal/bytealg.IndexString"], unfollowed := true, recurses := true, named := ["internal/bytealg.MaxLen", "paxtar/paxrec.keys", "strconv.ErrSyntax", "strconv.ErrRange", "internal/strconv.uint64pow10", "math/bits.deBruijn32tab", "math/bits.deBruijn64tab"], apart := false, laid := [("math/bits.deBruijn32tab", laid_math_bits_deBruijn32tab), ("math/bits.deBruijn64tab", laid_math_bits_deBruijn64tab), ("internal/strconv.uint64pow10", laid_internal_strconv_uint64pow10), ("strconv.ErrRange", laid_strconv_ErrRange), ("strconv.ErrSyntax", laid_strconv_ErrSyntax), ("paxtar/paxrec.keys", laid_paxtar_paxrec_keys)] }
def TreeClassesMustAgreeSaid : Prop := treeClassesMustAgreeRow.holds Tryd.pinned (OpenSpec.ofChange treeClassesMustAgreeSpec)

/-- ITS FALSE NEIGHBOUR: 'it returns false'. Refute it at one input. -/
def treeClassesMustAgreeWrong : ChangeSpec := { name := "treeClassesMustAgree", fn := fun _ => fun
  | [d1, d2, d3] => { results := [.lit (.bool false)], args := [d1, d2, d3] }
  | _ => none }
def TreeClassesMustAgreeWrongFalsely : Prop := treeClassesMustAgreeRow.holds Tryd.pinned (OpenSpec.ofChange treeClassesMustAgreeWrong)

/-- 'paxtarlaw13.TreeCheckMatchesReference': WHATEVER THE INPUT: true; the input reads as it did. -/
def treeCheckMatchesReferenceSpec : ChangeSpec := { name := "treeCheckMatchesReference", fn := fun _ => fun
  | [d1, d2] => { results := [.lit (.bool true)], args := [d1, d2] }
  | _ => none }
def treeCheckMatchesReferenceRow : OpenClaim := { program := "ytolfadbbhocikaadoor", sum := "63be54351298e8fb101bf43521559707daa6a5eb5241fc1824c1e237b2258e16", func := "paxtar/paxtarlaw13.TreeCheckMatchesReference", spec := "treeCheckMatchesReference", inPlace := ["internal/bytealg.IndexByteString", "internal/bytealg.IndexString"], unfollowed := true, recurses := true, named := ["internal/bytealg.MaxLen", "paxtar/paxrec.keys", "strconv.ErrSyntax", "strconv.ErrRange", "internal/strconv.uint64pow10", "math/bits.deBruijn32tab", "math/bits.deBruijn64tab"], apart := false, laid := [("math/bits.deBruijn32tab", laid_math_bits_deBruijn32tab), ("math/bits.deBruijn64tab", laid_math_bits_deBruijn64tab), ("internal/strconv.uint64pow10", laid_internal_strconv_uint64pow10), ("strconv.ErrRange", laid_strconv_ErrRange), ("strconv.ErrSyntax", laid_strconv_ErrSyntax), ("paxtar/paxrec.keys", laid_paxtar_paxrec_keys)] }
def TreeCheckMatchesReferenceSaid : Prop := treeCheckMatchesReferenceRow.holds Tryd.pinned (OpenSpec.ofChange treeCheckMatchesReferenceSpec)

/-- ITS FALSE NEIGHBOUR: 'it returns false'. Refute it at one input. -/
def treeCheckMatchesReferenceWrong : ChangeSpec := { name := "treeCheckMatchesReference", fn := fun _ => fun
  | [d1, d2] => { results := [.lit (.bool false)], args := [d1, d2] }
  | _ => none }
def TreeCheckMatchesReferenceWrongFalsely : Prop := treeCheckMatchesReferenceRow.holds Tryd.pinned (OpenSpec.ofChange treeCheckMatchesReferenceWrong)

/-- 'paxtarlaw13.TreeAddNode': WHATEVER THE INPUT: true; the input reads as it did. -/
def treeAddNodeSpec : ChangeSpec := { name := "treeAddNode", fn := fun _ => fun
  | [d1, d2] => { results := [.lit (.bool true)], args := [d1, d2] }
  | _ => none }
def treeAddNodeRow : OpenClaim := { program := "ytolfadbbhocikaadoor", sum := "63be54351298e8fb101bf43521559707daa6a5eb5241fc1824c1e237b2258e16", func := "paxtar/paxtarlaw13.TreeAddNode", spec := "treeAddNode", inPlace := ["internal/bytealg.IndexByteString", "internal/bytealg.IndexString"], unfollowed := true, recurses := true, named := ["internal/bytealg.MaxLen", "paxtar/paxrec.keys", "strconv.ErrSyntax", "strconv.ErrRange", "internal/strconv.uint64pow10", "math/bits.deBruijn32tab", "math/bits.deBruijn64tab"], apart := false, laid := [("math/bits.deBruijn32tab", laid_math_bits_deBruijn32tab), ("math/bits.deBruijn64tab", laid_math_bits_deBruijn64tab), ("internal/strconv.uint64pow10", laid_internal_strconv_uint64pow10), ("strconv.ErrRange", laid_strconv_ErrRange), ("strconv.ErrSyntax", laid_strconv_ErrSyntax), ("paxtar/paxrec.keys", laid_paxtar_paxrec_keys)] }
def TreeAddNodeSaid : Prop := treeAddNodeRow.holds Tryd.pinned (OpenSpec.ofChange treeAddNodeSpec)

/-- ITS FALSE NEIGHBOUR: 'it returns false'. Refute it at one input. -/
def treeAddNodeWrong : ChangeSpec := { name := "treeAddNode", fn := fun _ => fun
  | [d1, d2] => { results := [.lit (.bool false)], args := [d1, d2] }
  | _ => none }
def TreeAddNodeWrongFalsely : Prop := treeAddNodeRow.holds Tryd.pinned (OpenSpec.ofChange treeAddNodeWrong)

/-- 'paxtarlaw13.TreeIsolated': WHATEVER THE INPUT: true; the input reads as it did. -/
def treeIsolatedSpec : ChangeSpec := { name := "treeIsolated", fn := fun _ => fun
  | [d] => { results := [.lit (.bool true)], args := [d] }
  | _ => none }
def treeIsolatedRow : OpenClaim := { program := "ytolfadbbhocikaadoor", sum := "63be54351298e8fb101bf43521559707daa6a5eb5241fc1824c1e237b2258e16", func := "paxtar/paxtarlaw13.TreeIsolated", spec := "treeIsolated", inPlace := ["internal/bytealg.IndexByteString", "internal/bytealg.IndexString"], unfollowed := true, recurses := true, named := ["internal/bytealg.MaxLen", "paxtar/paxrec.keys", "strconv.ErrSyntax", "strconv.ErrRange", "internal/strconv.uint64pow10", "math/bits.deBruijn32tab", "math/bits.deBruijn64tab"], apart := false, laid := [("math/bits.deBruijn32tab", laid_math_bits_deBruijn32tab), ("math/bits.deBruijn64tab", laid_math_bits_deBruijn64tab), ("internal/strconv.uint64pow10", laid_internal_strconv_uint64pow10), ("strconv.ErrRange", laid_strconv_ErrRange), ("strconv.ErrSyntax", laid_strconv_ErrSyntax), ("paxtar/paxrec.keys", laid_paxtar_paxrec_keys)] }
def TreeIsolatedSaid : Prop := treeIsolatedRow.holds Tryd.pinned (OpenSpec.ofChange treeIsolatedSpec)

/-- ITS FALSE NEIGHBOUR: 'it returns false'. Refute it at one input. -/
def treeIsolatedWrong : ChangeSpec := { name := "treeIsolated", fn := fun _ => fun
  | [d] => { results := [.lit (.bool false)], args := [d] }
  | _ => none }
def TreeIsolatedWrongFalsely : Prop := treeIsolatedRow.holds Tryd.pinned (OpenSpec.ofChange treeIsolatedWrong)

/-- 'paxtarlaw13.TreeCanonMatchesReference': WHATEVER THE INPUT: true; the input reads as it did. -/
def treeCanonMatchesReferenceSpec : ChangeSpec := { name := "treeCanonMatchesReference", fn := fun _ => fun
  | [d1, d2] => { results := [.lit (.bool true)], args := [d1, d2] }
  | _ => none }
def treeCanonMatchesReferenceRow : OpenClaim := { program := "ytolfadbbhocikaadoor", sum := "63be54351298e8fb101bf43521559707daa6a5eb5241fc1824c1e237b2258e16", func := "paxtar/paxtarlaw13.TreeCanonMatchesReference", spec := "treeCanonMatchesReference", inPlace := ["internal/bytealg.IndexByteString", "internal/bytealg.IndexString"], unfollowed := true, recurses := true, named := ["internal/bytealg.MaxLen", "paxtar/paxrec.keys", "strconv.ErrSyntax", "strconv.ErrRange", "internal/strconv.uint64pow10", "math/bits.deBruijn32tab", "math/bits.deBruijn64tab"], apart := false, laid := [("math/bits.deBruijn32tab", laid_math_bits_deBruijn32tab), ("math/bits.deBruijn64tab", laid_math_bits_deBruijn64tab), ("internal/strconv.uint64pow10", laid_internal_strconv_uint64pow10), ("strconv.ErrRange", laid_strconv_ErrRange), ("strconv.ErrSyntax", laid_strconv_ErrSyntax), ("paxtar/paxrec.keys", laid_paxtar_paxrec_keys)] }
def TreeCanonMatchesReferenceSaid : Prop := treeCanonMatchesReferenceRow.holds Tryd.pinned (OpenSpec.ofChange treeCanonMatchesReferenceSpec)

/-- ITS FALSE NEIGHBOUR: 'it returns false'. Refute it at one input. -/
def treeCanonMatchesReferenceWrong : ChangeSpec := { name := "treeCanonMatchesReference", fn := fun _ => fun
  | [d1, d2] => { results := [.lit (.bool false)], args := [d1, d2] }
  | _ => none }
def TreeCanonMatchesReferenceWrongFalsely : Prop := treeCanonMatchesReferenceRow.holds Tryd.pinned (OpenSpec.ofChange treeCanonMatchesReferenceWrong)

/-- 'paxtarlaw13.TreeCanonIsCanonical': WHATEVER THE INPUT: true; the input reads as it did. -/
def treeCanonIsCanonicalSpec : ChangeSpec := { name := "treeCanonIsCanonical", fn := fun _ => fun
  | [d1, d2, d3] => { results := [.lit (.bool true)], args := [d1, d2, d3] }
  | _ => none }
def treeCanonIsCanonicalRow : OpenClaim := { program := "ytolfadbbhocikaadoor", sum := "63be54351298e8fb101bf43521559707daa6a5eb5241fc1824c1e237b2258e16", func := "paxtar/paxtarlaw13.TreeCanonIsCanonical", spec := "treeCanonIsCanonical", inPlace := ["internal/bytealg.IndexByteString", "internal/bytealg.IndexString"], unfollowed := true, recurses := true, named := ["internal/bytealg.MaxLen", "paxtar/paxrec.keys", "strconv.ErrSyntax", "strconv.ErrRange", "internal/strconv.uint64pow10", "math/bits.deBruijn32tab", "math/bits.deBruijn64tab"], apart := false, laid := [("math/bits.deBruijn32tab", laid_math_bits_deBruijn32tab), ("math/bits.deBruijn64tab", laid_math_bits_deBruijn64tab), ("internal/strconv.uint64pow10", laid_internal_strconv_uint64pow10), ("strconv.ErrRange", laid_strconv_ErrRange), ("strconv.ErrSyntax", laid_strconv_ErrSyntax), ("paxtar/paxrec.keys", laid_paxtar_paxrec_keys)] }
def TreeCanonIsCanonicalSaid : Prop := treeCanonIsCanonicalRow.holds Tryd.pinned (OpenSpec.ofChange treeCanonIsCanonicalSpec)

/-- ITS FALSE NEIGHBOUR: 'it returns false'. Refute it at one input. -/
def treeCanonIsCanonicalWrong : ChangeSpec := { name := "treeCanonIsCanonical", fn := fun _ => fun
  | [d1, d2, d3] => { results := [.lit (.bool false)], args := [d1, d2, d3] }
  | _ => none }
def TreeCanonIsCanonicalWrongFalsely : Prop := treeCanonIsCanonicalRow.holds Tryd.pinned (OpenSpec.ofChange treeCanonIsCanonicalWrong)

/- THE SECOND FORM. 'bulk': how many values and letters a reading holds, each counted each time it is reached (what is shared counts as often as it is met; a slice's spare places count too). A statement '..UptoSaid' is the law's where the arguments, and the package variables that the reading takes, are together of bulk at most 1048576: NARROWER than '..Said'. Prove '..Said' where nothing that the law and all that it calls make is longer than what came in: it says more and counts as full. Else prove '..UptoSaid'. A law counts once. -/
mutual
def uptoBulk {H : Type} : DataW H → Nat
  | .lit (.string bytes) => bytes.length + 1
  | .lit _ => 1
  | .nil => 1
  | .ptr d => uptoBulk d + 1
  | .slice elems spare => uptoBulkAll elems + uptoBulkAll spare + 1
  | .agg parts => uptoBulkAll parts + 1
  | .iface _ d => uptoBulk d + 1
  | .map entries => uptoBulkEntries entries + 1
  | .held _ => 1
def uptoBulkAll {H : Type} : List (DataW H) → Nat
  | [] => 0
  | d :: r => uptoBulk d + uptoBulkAll r
def uptoBulkEntries {H : Type} : List (Lit × DataW H) → Nat
  | [] => 0
  | x :: r => uptoBulkEntry x + uptoBulkEntries r
def uptoBulkEntry {H : Type} : Lit × DataW H → Nat
  | (.string bytes, d) => bytes.length + uptoBulk d + 1
  | (_, d) => uptoBulk d + 1
 end
def uptoSmall : (H : Type) → List (DataW H) → Bool := fun _ ds => decide (uptoBulkAll ds ≤ 1048576)
def OpenSpec.upto (s : _root_.Go.ChangeSpec) : _root_.Go.OpenSpec := { _root_.Go.OpenSpec.ofChange s with cond := some uptoSmall }

/-- 'paxtarlaw13.TreeRemoveNode', WHERE WHAT IT READS IS OF BULK AT MOST 1048576: true; the input reads as it did. -/
def treeRemoveNodeUptoRow : OpenClaim := { program := "ytolfadbbhocikaadoor", sum := "63be54351298e8fb101bf43521559707daa6a5eb5241fc1824c1e237b2258e16", func := "paxtar/paxtarlaw13.TreeRemoveNode", spec := "treeRemoveNode", inPlace := ["internal/bytealg.IndexByteString", "internal/bytealg.IndexString"], unfollowed := true, recurses := true, named := ["internal/bytealg.MaxLen", "paxtar/paxrec.keys", "strconv.ErrSyntax", "strconv.ErrRange", "internal/strconv.uint64pow10", "math/bits.deBruijn32tab", "math/bits.deBruijn64tab"], apart := false, laid := [("math/bits.deBruijn32tab", laid_math_bits_deBruijn32tab), ("math/bits.deBruijn64tab", laid_math_bits_deBruijn64tab), ("internal/strconv.uint64pow10", laid_internal_strconv_uint64pow10), ("strconv.ErrRange", laid_strconv_ErrRange), ("strconv.ErrSyntax", laid_strconv_ErrSyntax), ("paxtar/paxrec.keys", laid_paxtar_paxrec_keys)], narrowed := true }
def TreeRemoveNodeUptoSaid : Prop := treeRemoveNodeUptoRow.holds Tryd.pinned (OpenSpec.upto treeRemoveNodeSpec)

/-- 'paxtarlaw13.TreeClassesMustAgree', WHERE WHAT IT READS IS OF BULK AT MOST 1048576: true; the input reads as it did. -/
def treeClassesMustAgreeUptoRow : OpenClaim := { program := "ytolfadbbhocikaadoor", sum := "63be54351298e8fb101bf43521559707daa6a5eb5241fc1824c1e237b2258e16", func := "paxtar/paxtarlaw13.TreeClassesMustAgree", spec := "treeClassesMustAgree", inPlace := ["internal/bytealg.IndexByteString", "internal/bytealg.IndexString"], unfollowed := true, recurses := true, named := ["internal/bytealg.MaxLen", "paxtar/paxrec.keys", "strconv.ErrSyntax", "strconv.ErrRange", "internal/strconv.uint64pow10", "math/bits.deBruijn32tab", "math/bits.deBruijn64tab"], apart := false, laid := [("math/bits.deBruijn32tab", laid_math_bits_deBruijn32tab), ("math/bits.deBruijn64tab", laid_math_bits_deBruijn64tab), ("internal/strconv.uint64pow10", laid_internal_strconv_uint64pow10), ("strconv.ErrRange", laid_strconv_ErrRange), ("strconv.ErrSyntax", laid_strconv_ErrSyntax), ("paxtar/paxrec.keys", laid_paxtar_paxrec_keys)], narrowed := true }
def TreeClassesMustAgreeUptoSaid : Prop := treeClassesMustAgreeUptoRow.holds Tryd.pinned (OpenSpec.upto treeClassesMustAgreeSpec)

/-- 'paxtarlaw13.TreeCheckMatchesReference', WHERE WHAT IT READS IS OF BULK AT MOST 1048576: true; the input reads as it did. -/
def treeCheckMatchesReferenceUptoRow : OpenClaim := { program := "ytolfadbbhocikaadoor", sum := "63be54351298e8fb101bf43521559707daa6a5eb5241fc1824c1e237b2258e16", func := "paxtar/paxtarlaw13.TreeCheckMatchesReference", spec := "treeCheckMatchesReference", inPlace := ["internal/bytealg.IndexByteString", "internal/bytealg.IndexString"], unfollowed := true, recurses := true, named := ["internal/bytealg.MaxLen", "paxtar/paxrec.keys", "strconv.ErrSyntax", "strconv.ErrRange", "internal/strconv.uint64pow10", "math/bits.deBruijn32tab", "math/bits.deBruijn64tab"], apart := false, laid := [("math/bits.deBruijn32tab", laid_math_bits_deBruijn32tab), ("math/bits.deBruijn64tab", laid_math_bits_deBruijn64tab), ("internal/strconv.uint64pow10", laid_internal_strconv_uint64pow10), ("strconv.ErrRange", laid_strconv_ErrRange), ("strconv.ErrSyntax", laid_strconv_ErrSyntax), ("paxtar/paxrec.keys", laid_paxtar_paxrec_keys)], narrowed := true }
def TreeCheckMatchesReferenceUptoSaid : Prop := treeCheckMatchesReferenceUptoRow.holds Tryd.pinned (OpenSpec.upto treeCheckMatchesReferenceSpec)

/-- 'paxtarlaw13.TreeAddNode', WHERE WHAT IT READS IS OF BULK AT MOST 1048576: true; the input reads as it did. -/
def treeAddNodeUptoRow : OpenClaim := { program := "ytolfadbbhocikaadoor", sum := "63be54351298e8fb101bf43521559707daa6a5eb5241fc1824c1e237b2258e16", func := "paxtar/paxtarlaw13.TreeAddNode", spec := "treeAddNode", inPlace := ["internal/bytealg.IndexByteString", "internal/bytealg.IndexString"], unfollowed := true, recurses := true, named := ["internal/bytealg.MaxLen", "paxtar/paxrec.keys", "strconv.ErrSyntax", "strconv.ErrRange", "internal/strconv.uint64pow10", "math/bits.deBruijn32tab", "math/bits.deBruijn64tab"], apart := false, laid := [("math/bits.deBruijn32tab", laid_math_bits_deBruijn32tab), ("math/bits.deBruijn64tab", laid_math_bits_deBruijn64tab), ("internal/strconv.uint64pow10", laid_internal_strconv_uint64pow10), ("strconv.ErrRange", laid_strconv_ErrRange), ("strconv.ErrSyntax", laid_strconv_ErrSyntax), ("paxtar/paxrec.keys", laid_paxtar_paxrec_keys)], narrowed := true }
def TreeAddNodeUptoSaid : Prop := treeAddNodeUptoRow.holds Tryd.pinned (OpenSpec.upto treeAddNodeSpec)

/-- 'paxtarlaw13.TreeIsolated', WHERE WHAT IT READS IS OF BULK AT MOST 1048576: true; the input reads as it did. -/
def treeIsolatedUptoRow : OpenClaim := { program := "ytolfadbbhocikaadoor", sum := "63be54351298e8fb101bf43521559707daa6a5eb5241fc1824c1e237b2258e16", func := "paxtar/paxtarlaw13.TreeIsolated", spec := "treeIsolated", inPlace := ["internal/bytealg.IndexByteString", "internal/bytealg.IndexString"], unfollowed := true, recurses := true, named := ["internal/bytealg.MaxLen", "paxtar/paxrec.keys", "strconv.ErrSyntax", "strconv.ErrRange", "internal/strconv.uint64pow10", "math/bits.deBruijn32tab", "math/bits.deBruijn64tab"], apart := false, laid := [("math/bits.deBruijn32tab", laid_math_bits_deBruijn32tab), ("math/bits.deBruijn64tab", laid_math_bits_deBruijn64tab), ("internal/strconv.uint64pow10", laid_internal_strconv_uint64pow10), ("strconv.ErrRange", laid_strconv_ErrRange), ("strconv.ErrSyntax", laid_strconv_ErrSyntax), ("paxtar/paxrec.keys", laid_paxtar_paxrec_keys)], narrowed := true }
def TreeIsolatedUptoSaid : Prop := treeIsolatedUptoRow.holds Tryd.pinned (OpenSpec.upto treeIsolatedSpec)

/-- 'paxtarlaw13.TreeCanonMatchesReference', WHERE WHAT IT READS IS OF BULK AT MOST 1048576: true; the input reads as it did. -/
def treeCanonMatchesReferenceUptoRow : OpenClaim := { program := "ytolfadbbhocikaadoor", sum := "63be54351298e8fb101bf43521559707daa6a5eb5241fc1824c1e237b2258e16", func := "paxtar/paxtarlaw13.TreeCanonMatchesReference", spec := "treeCanonMatchesReference", inPlace := ["internal/bytealg.IndexByteString", "internal/bytealg.IndexString"], unfollowed := true, recurses := true, named := ["internal/bytealg.MaxLen", "paxtar/paxrec.keys", "strconv.ErrSyntax", "strconv.ErrRange", "internal/strconv.uint64pow10", "math/bits.deBruijn32tab", "math/bits.deBruijn64tab"], apart := false, laid := [("math/bits.deBruijn32tab", laid_math_bits_deBruijn32tab), ("math/bits.deBruijn64tab", laid_math_bits_deBruijn64tab), ("internal/strconv.uint64pow10", laid_internal_strconv_uint64pow10), ("strconv.ErrRange", laid_strconv_ErrRange), ("strconv.ErrSyntax", laid_strconv_ErrSyntax), ("paxtar/paxrec.keys", laid_paxtar_paxrec_keys)], narrowed := true }
def TreeCanonMatchesReferenceUptoSaid : Prop := treeCanonMatchesReferenceUptoRow.holds Tryd.pinned (OpenSpec.upto treeCanonMatchesReferenceSpec)

/-- 'paxtarlaw13.TreeCanonIsCanonical', WHERE WHAT IT READS IS OF BULK AT MOST 1048576: true; the input reads as it did. -/
def treeCanonIsCanonicalUptoRow : OpenClaim := { program := "ytolfadbbhocikaadoor", sum := "63be54351298e8fb101bf43521559707daa6a5eb5241fc1824c1e237b2258e16", func := "paxtar/paxtarlaw13.TreeCanonIsCanonical", spec := "treeCanonIsCanonical", inPlace := ["internal/bytealg.IndexByteString", "internal/bytealg.IndexString"], unfollowed := true, recurses := true, named := ["internal/bytealg.MaxLen", "paxtar/paxrec.keys", "strconv.ErrSyntax", "strconv.ErrRange", "internal/strconv.uint64pow10", "math/bits.deBruijn32tab", "math/bits.deBruijn64tab"], apart := false, laid := [("math/bits.deBruijn32tab", laid_math_bits_deBruijn32tab), ("math/bits.deBruijn64tab", laid_math_bits_deBruijn64tab), ("internal/strconv.uint64pow10", laid_internal_strconv_uint64pow10), ("strconv.ErrRange", laid_strconv_ErrRange), ("strconv.ErrSyntax", laid_strconv_ErrSyntax), ("paxtar/paxrec.keys", laid_paxtar_paxrec_keys)], narrowed := true }
def TreeCanonIsCanonicalUptoSaid : Prop := treeCanonIsCanonicalUptoRow.holds Tryd.pinned (OpenSpec.upto treeCanonIsCanonicalSpec)

end Rows
end Go.Proofs.YtolfadbbhocikaaDoor
