/-
  DERIVED. GIVEN WITH THE SEED: THE CARDS: each row of YtmmpnieglihhnaaDoorRows.lean that lists a variable, with what it lists TIED to the program's text (the seventh form; the later family's looks); each row that meets fmt, with fmt's text TOLD by the authors' own Lean function (tested against real Go, not proved from fmt's source: count such statements apart). THE CARD IS WHAT COUNTS. Prove the row's statement (the work); the ties are given (YtmmpnieglihhnaaDoorTie.lean); close each card by the builder's one call (the guide's Derived/Test/ToyasCard.lean, 'card_holds'). Laid BY PROGRAM, IN A SANDBOX (cutbox-door.mjs). By AI agents, Wed Nov 11 2026. No macro, syntax, notation, axiom, sorry.
-/
import Derived.Test.YtmmpnieglihhnaaDoorRows
import GoSem.ClaimSeven
namespace Go.Proofs.YtmmpnieglihhnaaDoor
namespace Rows

/-- THE TIED CARD OF 'paxtarlaw12.EntryLength'. -/
def entryLengthCard : Claim7 := { stood := { row := entryLengthRow, standIns := [], harness := (true, "1eef810bf59ee57c8a37590bb0afd4881131f846b2d5307eca928f0070031b68"), looks := true }, kinds := [], alts := [], laidByText := true, laidKinds := [.data, .data, .data, .sentinel, .sentinel, .widerDeep, .data, .wider, .data, .data, .wider, .data, .wider, .data, .data, .data, .data, .data, .widerDeep], laidTests := true, laidLooks := .later }
def EntryLengthCardSaid : Prop := Claim7.holds Tryd.pinned (.plain (OpenSpec.ofChange entryLengthSpec)) entryLengthCard

/-- THE TIED CARD OF 'paxtarlaw07.UstarDecodeMatchesReference'. -/
def ustarDecodeMatchesReferenceCard : Claim7 := { stood := { row := ustarDecodeMatchesReferenceRow, standIns := [], harness := (true, "1eef810bf59ee57c8a37590bb0afd4881131f846b2d5307eca928f0070031b68"), looks := true }, kinds := [], alts := [], laidByText := true, laidKinds := [.data, .wider, .data, .data, .wider, .data, .wider, .data, .data, .data, .data, .data], laidTests := true, laidLooks := .later }
def UstarDecodeMatchesReferenceCardSaid : Prop := Claim7.holds Tryd.pinned (.plain (OpenSpec.ofChange ustarDecodeMatchesReferenceSpec)) ustarDecodeMatchesReferenceCard

/-- THE TIED CARD OF 'paxtarlaw07.UstarRoundTrip'. -/
def ustarRoundTripCard : Claim7 := { stood := { row := ustarRoundTripRow, standIns := [], harness := (true, "1eef810bf59ee57c8a37590bb0afd4881131f846b2d5307eca928f0070031b68"), looks := true }, kinds := [], alts := [], laidByText := true, laidKinds := [.data, .wider, .data, .data, .wider, .data, .wider, .data, .data, .data, .data, .data], laidTests := true, laidLooks := .later }
def UstarRoundTripCardSaid : Prop := Claim7.holds Tryd.pinned (.plain (OpenSpec.ofChange ustarRoundTripSpec)) ustarRoundTripCard

/-- THE TIED CARD OF 'paxtarlaw07.UstarRejectsOneByte'. -/
def ustarRejectsOneByteCard : Claim7 := { stood := { row := ustarRejectsOneByteRow, standIns := [], harness := (true, "1eef810bf59ee57c8a37590bb0afd4881131f846b2d5307eca928f0070031b68"), looks := true }, kinds := [], alts := [], laidByText := true, laidKinds := [.data, .wider, .data, .data, .wider, .data, .wider, .data, .data, .data, .data, .data], laidTests := true, laidLooks := .later }
def UstarRejectsOneByteCardSaid : Prop := Claim7.holds Tryd.pinned (.plain (OpenSpec.ofChange ustarRejectsOneByteSpec)) ustarRejectsOneByteCard

/-- THE SECOND FORM's CARD OF 'paxtarlaw12.EntryLength'. -/
def entryLengthUptoCard : Claim7 := { stood := { row := entryLengthUptoRow, standIns := [], harness := (true, "1eef810bf59ee57c8a37590bb0afd4881131f846b2d5307eca928f0070031b68"), looks := true }, kinds := [], alts := [], laidByText := true, laidKinds := [.data, .data, .data, .sentinel, .sentinel, .widerDeep, .data, .wider, .data, .data, .wider, .data, .wider, .data, .data, .data, .data, .data, .widerDeep], laidTests := true, laidLooks := .later }
def EntryLengthUptoCardSaid : Prop := Claim7.holds Tryd.pinned (.plain (OpenSpec.upto entryLengthSpec)) entryLengthUptoCard

/-- THE SECOND FORM's CARD OF 'paxtarlaw07.UstarDecodeMatchesReference'. -/
def ustarDecodeMatchesReferenceUptoCard : Claim7 := { stood := { row := ustarDecodeMatchesReferenceUptoRow, standIns := [], harness := (true, "1eef810bf59ee57c8a37590bb0afd4881131f846b2d5307eca928f0070031b68"), looks := true }, kinds := [], alts := [], laidByText := true, laidKinds := [.data, .wider, .data, .data, .wider, .data, .wider, .data, .data, .data, .data, .data], laidTests := true, laidLooks := .later }
def UstarDecodeMatchesReferenceUptoCardSaid : Prop := Claim7.holds Tryd.pinned (.plain (OpenSpec.upto ustarDecodeMatchesReferenceSpec)) ustarDecodeMatchesReferenceUptoCard

/-- THE SECOND FORM's CARD OF 'paxtarlaw07.UstarRoundTrip'. -/
def ustarRoundTripUptoCard : Claim7 := { stood := { row := ustarRoundTripUptoRow, standIns := [], harness := (true, "1eef810bf59ee57c8a37590bb0afd4881131f846b2d5307eca928f0070031b68"), looks := true }, kinds := [], alts := [], laidByText := true, laidKinds := [.data, .wider, .data, .data, .wider, .data, .wider, .data, .data, .data, .data, .data], laidTests := true, laidLooks := .later }
def UstarRoundTripUptoCardSaid : Prop := Claim7.holds Tryd.pinned (.plain (OpenSpec.upto ustarRoundTripSpec)) ustarRoundTripUptoCard

/-- THE SECOND FORM's CARD OF 'paxtarlaw07.UstarRejectsOneByte'. -/
def ustarRejectsOneByteUptoCard : Claim7 := { stood := { row := ustarRejectsOneByteUptoRow, standIns := [], harness := (true, "1eef810bf59ee57c8a37590bb0afd4881131f846b2d5307eca928f0070031b68"), looks := true }, kinds := [], alts := [], laidByText := true, laidKinds := [.data, .wider, .data, .data, .wider, .data, .wider, .data, .data, .data, .data, .data], laidTests := true, laidLooks := .later }
def UstarRejectsOneByteUptoCardSaid : Prop := Claim7.holds Tryd.pinned (.plain (OpenSpec.upto ustarRejectsOneByteSpec)) ustarRejectsOneByteUptoCard
end Rows
end Go.Proofs.YtmmpnieglihhnaaDoor
