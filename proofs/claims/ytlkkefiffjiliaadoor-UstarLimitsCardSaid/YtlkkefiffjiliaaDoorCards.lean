/-
  DERIVED. GIVEN WITH THE SEED: THE CARDS: each row of YtlkkefiffjiliaaDoorRows.lean that lists a variable, with what it lists TIED to the program's text (the seventh form; the later family's looks); each row that meets fmt, with fmt's text TOLD by the authors' own Lean function (tested against real Go, not proved from fmt's source: count such statements apart). THE CARD IS WHAT COUNTS. Prove the row's statement (the work); the ties are given (YtlkkefiffjiliaaDoorTie.lean); close each card by the builder's one call (the guide's Derived/Test/ToyasCard.lean, 'card_holds'). Laid BY PROGRAM, IN A SANDBOX (cutbox-door.mjs). By AI agents, Wed Nov 11 2026. No macro, syntax, notation, axiom, sorry.
-/
import Derived.Test.YtlkkefiffjiliaaDoorRows
import GoSem.ClaimSeven
namespace Go.Proofs.YtlkkefiffjiliaaDoor
namespace Rows

/-- THE TIED CARD OF 'paxtarlaw07.UstarEncodeMatchesReference'. -/
def ustarEncodeMatchesReferenceCard : Claim7 := { stood := { row := ustarEncodeMatchesReferenceRow, standIns := [], harness := (true, "88517730505753851bf2d3c30ca9223b8c3c22c5de03ef2302829e72a06167cb"), looks := false }, kinds := [], alts := [], laidByText := true, laidKinds := [.data, .wider, .data, .data, .wider, .data, .wider, .data, .data, .data, .data, .data], laidTests := true, laidLooks := .later }
def UstarEncodeMatchesReferenceCardSaid : Prop := Claim7.holds Tryd.pinned (.plain (OpenSpec.ofChange ustarEncodeMatchesReferenceSpec)) ustarEncodeMatchesReferenceCard

/-- THE TIED CARD OF 'paxtarlaw07.UstarFields'. -/
def ustarFieldsCard : Claim7 := { stood := { row := ustarFieldsRow, standIns := [], harness := (true, "88517730505753851bf2d3c30ca9223b8c3c22c5de03ef2302829e72a06167cb"), looks := false }, kinds := [], alts := [], laidByText := true, laidKinds := [.data, .wider, .data, .data, .wider, .data, .wider, .data, .data, .data, .data, .data], laidTests := true, laidLooks := .later }
def UstarFieldsCardSaid : Prop := Claim7.holds Tryd.pinned (.plain (OpenSpec.ofChange ustarFieldsSpec)) ustarFieldsCard

/-- THE TIED CARD OF 'paxtarlaw07.UstarLimits'. -/
def ustarLimitsCard : Claim7 := { stood := { row := ustarLimitsRow, standIns := [], harness := (true, "88517730505753851bf2d3c30ca9223b8c3c22c5de03ef2302829e72a06167cb"), looks := false }, kinds := [], alts := [], laidByText := true, laidKinds := [.data, .wider, .data, .data, .wider, .data, .wider, .data, .data, .data, .data, .data], laidTests := true, laidLooks := .later }
def UstarLimitsCardSaid : Prop := Claim7.holds Tryd.pinned (.plain (OpenSpec.ofChange ustarLimitsSpec)) ustarLimitsCard

/-- THE TIED CARD OF 'paxtarlaw07.UstarDecodeMatchesReference'. -/
def ustarDecodeMatchesReferenceCard : Claim7 := { stood := { row := ustarDecodeMatchesReferenceRow, standIns := [], harness := (true, "88517730505753851bf2d3c30ca9223b8c3c22c5de03ef2302829e72a06167cb"), looks := false }, kinds := [], alts := [], laidByText := true, laidKinds := [.data, .wider, .data, .data, .wider, .data, .wider, .data, .data, .data, .data, .data], laidTests := true, laidLooks := .later }
def UstarDecodeMatchesReferenceCardSaid : Prop := Claim7.holds Tryd.pinned (.plain (OpenSpec.ofChange ustarDecodeMatchesReferenceSpec)) ustarDecodeMatchesReferenceCard

/-- THE TIED CARD OF 'paxtarlaw07.UstarRoundTrip'. -/
def ustarRoundTripCard : Claim7 := { stood := { row := ustarRoundTripRow, standIns := [], harness := (true, "88517730505753851bf2d3c30ca9223b8c3c22c5de03ef2302829e72a06167cb"), looks := false }, kinds := [], alts := [], laidByText := true, laidKinds := [.data, .wider, .data, .data, .wider, .data, .wider, .data, .data, .data, .data, .data], laidTests := true, laidLooks := .later }
def UstarRoundTripCardSaid : Prop := Claim7.holds Tryd.pinned (.plain (OpenSpec.ofChange ustarRoundTripSpec)) ustarRoundTripCard

/-- THE TIED CARD OF 'paxtarlaw07.UstarRejectsOneByte'. -/
def ustarRejectsOneByteCard : Claim7 := { stood := { row := ustarRejectsOneByteRow, standIns := [], harness := (true, "88517730505753851bf2d3c30ca9223b8c3c22c5de03ef2302829e72a06167cb"), looks := false }, kinds := [], alts := [], laidByText := true, laidKinds := [.data, .wider, .data, .data, .wider, .data, .wider, .data, .data, .data, .data, .data], laidTests := true, laidLooks := .later }
def UstarRejectsOneByteCardSaid : Prop := Claim7.holds Tryd.pinned (.plain (OpenSpec.ofChange ustarRejectsOneByteSpec)) ustarRejectsOneByteCard

/-- THE SECOND FORM's CARD OF 'paxtarlaw07.UstarEncodeMatchesReference'. -/
def ustarEncodeMatchesReferenceUptoCard : Claim7 := { stood := { row := ustarEncodeMatchesReferenceUptoRow, standIns := [], harness := (true, "88517730505753851bf2d3c30ca9223b8c3c22c5de03ef2302829e72a06167cb"), looks := false }, kinds := [], alts := [], laidByText := true, laidKinds := [.data, .wider, .data, .data, .wider, .data, .wider, .data, .data, .data, .data, .data], laidTests := true, laidLooks := .later }
def UstarEncodeMatchesReferenceUptoCardSaid : Prop := Claim7.holds Tryd.pinned (.plain (OpenSpec.upto ustarEncodeMatchesReferenceSpec)) ustarEncodeMatchesReferenceUptoCard

/-- THE SECOND FORM's CARD OF 'paxtarlaw07.UstarFields'. -/
def ustarFieldsUptoCard : Claim7 := { stood := { row := ustarFieldsUptoRow, standIns := [], harness := (true, "88517730505753851bf2d3c30ca9223b8c3c22c5de03ef2302829e72a06167cb"), looks := false }, kinds := [], alts := [], laidByText := true, laidKinds := [.data, .wider, .data, .data, .wider, .data, .wider, .data, .data, .data, .data, .data], laidTests := true, laidLooks := .later }
def UstarFieldsUptoCardSaid : Prop := Claim7.holds Tryd.pinned (.plain (OpenSpec.upto ustarFieldsSpec)) ustarFieldsUptoCard

/-- THE SECOND FORM's CARD OF 'paxtarlaw07.UstarLimits'. -/
def ustarLimitsUptoCard : Claim7 := { stood := { row := ustarLimitsUptoRow, standIns := [], harness := (true, "88517730505753851bf2d3c30ca9223b8c3c22c5de03ef2302829e72a06167cb"), looks := false }, kinds := [], alts := [], laidByText := true, laidKinds := [.data, .wider, .data, .data, .wider, .data, .wider, .data, .data, .data, .data, .data], laidTests := true, laidLooks := .later }
def UstarLimitsUptoCardSaid : Prop := Claim7.holds Tryd.pinned (.plain (OpenSpec.upto ustarLimitsSpec)) ustarLimitsUptoCard

/-- THE SECOND FORM's CARD OF 'paxtarlaw07.UstarDecodeMatchesReference'. -/
def ustarDecodeMatchesReferenceUptoCard : Claim7 := { stood := { row := ustarDecodeMatchesReferenceUptoRow, standIns := [], harness := (true, "88517730505753851bf2d3c30ca9223b8c3c22c5de03ef2302829e72a06167cb"), looks := false }, kinds := [], alts := [], laidByText := true, laidKinds := [.data, .wider, .data, .data, .wider, .data, .wider, .data, .data, .data, .data, .data], laidTests := true, laidLooks := .later }
def UstarDecodeMatchesReferenceUptoCardSaid : Prop := Claim7.holds Tryd.pinned (.plain (OpenSpec.upto ustarDecodeMatchesReferenceSpec)) ustarDecodeMatchesReferenceUptoCard

/-- THE SECOND FORM's CARD OF 'paxtarlaw07.UstarRoundTrip'. -/
def ustarRoundTripUptoCard : Claim7 := { stood := { row := ustarRoundTripUptoRow, standIns := [], harness := (true, "88517730505753851bf2d3c30ca9223b8c3c22c5de03ef2302829e72a06167cb"), looks := false }, kinds := [], alts := [], laidByText := true, laidKinds := [.data, .wider, .data, .data, .wider, .data, .wider, .data, .data, .data, .data, .data], laidTests := true, laidLooks := .later }
def UstarRoundTripUptoCardSaid : Prop := Claim7.holds Tryd.pinned (.plain (OpenSpec.upto ustarRoundTripSpec)) ustarRoundTripUptoCard

/-- THE SECOND FORM's CARD OF 'paxtarlaw07.UstarRejectsOneByte'. -/
def ustarRejectsOneByteUptoCard : Claim7 := { stood := { row := ustarRejectsOneByteUptoRow, standIns := [], harness := (true, "88517730505753851bf2d3c30ca9223b8c3c22c5de03ef2302829e72a06167cb"), looks := false }, kinds := [], alts := [], laidByText := true, laidKinds := [.data, .wider, .data, .data, .wider, .data, .wider, .data, .data, .data, .data, .data], laidTests := true, laidLooks := .later }
def UstarRejectsOneByteUptoCardSaid : Prop := Claim7.holds Tryd.pinned (.plain (OpenSpec.upto ustarRejectsOneByteSpec)) ustarRejectsOneByteUptoCard
end Rows
end Go.Proofs.YtlkkefiffjiliaaDoor
