/-
  DERIVED. GIVEN WITH THE SEED: THE CARDS: each row of YtdmhigknppkniaaGreatDoorRows.lean that lists a variable, with what it lists TIED to the program's text (the seventh form; the later family's looks); each row that meets fmt, with fmt's text TOLD by the authors' own Lean function (tested against real Go, not proved from fmt's source: count such statements apart). THE CARD IS WHAT COUNTS. Prove the row's statement (the work); the ties are given (YtdmhigknppkniaaGreatDoorTie.lean); close each card by the builder's one call (the guide's Derived/Test/ToyasCard.lean, 'card_holds'). Laid BY PROGRAM, IN A SANDBOX (cutbox-door.mjs). By AI agents, Wed Nov 11 2026. No macro, syntax, notation, axiom, sorry.
-/
import Derived.Test.YtdmhigknppkniaaGreatDoorRows
import GoSem.ClaimSeven
namespace Go.Proofs.YtdmhigknppkniaaGreatDoor
namespace Rows

/-- THE TIED CARD OF 'paxtarlaw12.EntryDecodeMatchesReference'. -/
def entryDecodeMatchesReferenceCard : Claim7 := { stood := { row := entryDecodeMatchesReferenceRow, standIns := [], harness := (true, "b86063178da5552dfe2dd236708635f8146322c1295803c616c302ffee330e41"), looks := true }, kinds := [], alts := [], laidByText := true, laidKinds := [.data, .data, .data, .sentinel, .sentinel, .widerDeep, .data, .wider, .data, .data, .wider, .data, .wider, .data, .data, .data, .data, .data, .widerDeep], laidTests := true, laidLooks := .later }
def EntryDecodeMatchesReferenceCardSaid : Prop := Claim7.holds Tryz.pinned (.plain (OpenSpec.ofChange entryDecodeMatchesReferenceSpec)) entryDecodeMatchesReferenceCard

/-- THE TIED CARD OF 'paxtarlaw12.EntryRoundTrip'. -/
def entryRoundTripCard : Claim7 := { stood := { row := entryRoundTripRow, standIns := [], harness := (true, "b86063178da5552dfe2dd236708635f8146322c1295803c616c302ffee330e41"), looks := true }, kinds := [], alts := [], laidByText := true, laidKinds := [.data, .data, .data, .sentinel, .sentinel, .widerDeep, .data, .wider, .data, .data, .wider, .data, .wider, .data, .data, .data, .data, .data, .widerDeep], laidTests := true, laidLooks := .later }
def EntryRoundTripCardSaid : Prop := Claim7.holds Tryz.pinned (.plain (OpenSpec.ofChange entryRoundTripSpec)) entryRoundTripCard

/-- THE TIED CARD OF 'paxtarlaw12.EntryReadsItsEncoding'. -/
def entryReadsItsEncodingCard : Claim7 := { stood := { row := entryReadsItsEncodingRow, standIns := [], harness := (true, "b86063178da5552dfe2dd236708635f8146322c1295803c616c302ffee330e41"), looks := true }, kinds := [], alts := [], laidByText := true, laidKinds := [.data, .data, .data, .sentinel, .sentinel, .widerDeep, .data, .wider, .data, .data, .wider, .data, .wider, .data, .data, .data, .data, .data, .widerDeep], laidTests := true, laidLooks := .later }
def EntryReadsItsEncodingCardSaid : Prop := Claim7.holds Tryz.pinned (.plain (OpenSpec.ofChange entryReadsItsEncodingSpec)) entryReadsItsEncodingCard

/-- THE TIED CARD OF 'paxtarlaw12.EntryConsecutive'. -/
def entryConsecutiveCard : Claim7 := { stood := { row := entryConsecutiveRow, standIns := [], harness := (true, "b86063178da5552dfe2dd236708635f8146322c1295803c616c302ffee330e41"), looks := true }, kinds := [], alts := [], laidByText := true, laidKinds := [.data, .data, .data, .sentinel, .sentinel, .widerDeep, .data, .wider, .data, .data, .wider, .data, .wider, .data, .data, .data, .data, .data, .widerDeep], laidTests := true, laidLooks := .later }
def EntryConsecutiveCardSaid : Prop := Claim7.holds Tryz.pinned (.plain (OpenSpec.ofChange entryConsecutiveSpec)) entryConsecutiveCard

/-- THE SECOND FORM's CARD OF 'paxtarlaw12.EntryDecodeMatchesReference'. -/
def entryDecodeMatchesReferenceUptoCard : Claim7 := { stood := { row := entryDecodeMatchesReferenceUptoRow, standIns := [], harness := (true, "b86063178da5552dfe2dd236708635f8146322c1295803c616c302ffee330e41"), looks := true }, kinds := [], alts := [], laidByText := true, laidKinds := [.data, .data, .data, .sentinel, .sentinel, .widerDeep, .data, .wider, .data, .data, .wider, .data, .wider, .data, .data, .data, .data, .data, .widerDeep], laidTests := true, laidLooks := .later }
def EntryDecodeMatchesReferenceUptoCardSaid : Prop := Claim7.holds Tryz.pinned (.plain (OpenSpec.upto entryDecodeMatchesReferenceSpec)) entryDecodeMatchesReferenceUptoCard

/-- THE SECOND FORM's CARD OF 'paxtarlaw12.EntryRoundTrip'. -/
def entryRoundTripUptoCard : Claim7 := { stood := { row := entryRoundTripUptoRow, standIns := [], harness := (true, "b86063178da5552dfe2dd236708635f8146322c1295803c616c302ffee330e41"), looks := true }, kinds := [], alts := [], laidByText := true, laidKinds := [.data, .data, .data, .sentinel, .sentinel, .widerDeep, .data, .wider, .data, .data, .wider, .data, .wider, .data, .data, .data, .data, .data, .widerDeep], laidTests := true, laidLooks := .later }
def EntryRoundTripUptoCardSaid : Prop := Claim7.holds Tryz.pinned (.plain (OpenSpec.upto entryRoundTripSpec)) entryRoundTripUptoCard

/-- THE SECOND FORM's CARD OF 'paxtarlaw12.EntryReadsItsEncoding'. -/
def entryReadsItsEncodingUptoCard : Claim7 := { stood := { row := entryReadsItsEncodingUptoRow, standIns := [], harness := (true, "b86063178da5552dfe2dd236708635f8146322c1295803c616c302ffee330e41"), looks := true }, kinds := [], alts := [], laidByText := true, laidKinds := [.data, .data, .data, .sentinel, .sentinel, .widerDeep, .data, .wider, .data, .data, .wider, .data, .wider, .data, .data, .data, .data, .data, .widerDeep], laidTests := true, laidLooks := .later }
def EntryReadsItsEncodingUptoCardSaid : Prop := Claim7.holds Tryz.pinned (.plain (OpenSpec.upto entryReadsItsEncodingSpec)) entryReadsItsEncodingUptoCard

/-- THE SECOND FORM's CARD OF 'paxtarlaw12.EntryConsecutive'. -/
def entryConsecutiveUptoCard : Claim7 := { stood := { row := entryConsecutiveUptoRow, standIns := [], harness := (true, "b86063178da5552dfe2dd236708635f8146322c1295803c616c302ffee330e41"), looks := true }, kinds := [], alts := [], laidByText := true, laidKinds := [.data, .data, .data, .sentinel, .sentinel, .widerDeep, .data, .wider, .data, .data, .wider, .data, .wider, .data, .data, .data, .data, .data, .widerDeep], laidTests := true, laidLooks := .later }
def EntryConsecutiveUptoCardSaid : Prop := Claim7.holds Tryz.pinned (.plain (OpenSpec.upto entryConsecutiveSpec)) entryConsecutiveUptoCard
end Rows
end Go.Proofs.YtdmhigknppkniaaGreatDoor
