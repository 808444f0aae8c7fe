/-
  DERIVED. GIVEN WITH THE SEED: THE CARDS: each row of YtkcgabodpcfohaaDoorRows.lean that lists a variable, with what it lists TIED to the program's text (the seventh form; the later family's looks); each row that meets fmt, with fmt's text TOLD by the authors' own Lean function (tested against real Go, not proved from fmt's source: count such statements apart). THE CARD IS WHAT COUNTS. Prove the row's statement (the work); the ties are given (YtkcgabodpcfohaaDoorTie.lean); close each card by the builder's one call (the guide's Derived/Test/ToyasCard.lean, 'card_holds'). Laid BY PROGRAM, IN A SANDBOX (cutbox-door.mjs). By AI agents, Wed Nov 11 2026. No macro, syntax, notation, axiom, sorry.
-/
import Derived.Test.YtkcgabodpcfohaaDoorRows
import GoSem.ClaimSeven
namespace Go.Proofs.YtkcgabodpcfohaaDoor
namespace Rows

/-- THE TIED CARD OF 'paxtarlaw09.PaxrecConcatenation'. -/
def paxrecConcatenationCard : Claim7 := { stood := { row := paxrecConcatenationRow, standIns := [], harness := (true, "9e349ba97d5daffd0bdc3a143a0af8fdf2cd9dbcae3fe3e1f8d3d5acc05d58c5"), looks := true }, kinds := [], alts := [], laidByText := true, laidKinds := [.data, .data, .data, .sentinel, .sentinel, .widerDeep], laidTests := true, laidLooks := .later }
def PaxrecConcatenationCardSaid : Prop := Claim7.holds Tryd.pinned (.plain (OpenSpec.ofChange paxrecConcatenationSpec)) paxrecConcatenationCard

/-- THE TIED CARD OF 'paxtarlaw09.PaxrecKeysOrdered'. -/
def paxrecKeysOrderedCard : Claim7 := { stood := { row := paxrecKeysOrderedRow, standIns := [], harness := (true, "9e349ba97d5daffd0bdc3a143a0af8fdf2cd9dbcae3fe3e1f8d3d5acc05d58c5"), looks := true }, kinds := [], alts := [], laidByText := true, laidKinds := [.data, .data, .data, .sentinel, .sentinel, .widerDeep], laidTests := true, laidLooks := .later }
def PaxrecKeysOrderedCardSaid : Prop := Claim7.holds Tryd.pinned (.plain (OpenSpec.ofChange paxrecKeysOrderedSpec)) paxrecKeysOrderedCard

/-- THE TIED CARD OF 'paxtarlaw09.PaxrecFormatMatchesReference'. -/
def paxrecFormatMatchesReferenceCard : Claim7 := { stood := { row := paxrecFormatMatchesReferenceRow, standIns := [], harness := (true, "9e349ba97d5daffd0bdc3a143a0af8fdf2cd9dbcae3fe3e1f8d3d5acc05d58c5"), looks := true }, kinds := [], alts := [], laidByText := true, laidKinds := [.data, .data, .data, .sentinel, .sentinel, .widerDeep], laidTests := true, laidLooks := .later }
def PaxrecFormatMatchesReferenceCardSaid : Prop := Claim7.holds Tryd.pinned (.plain (OpenSpec.ofChange paxrecFormatMatchesReferenceSpec)) paxrecFormatMatchesReferenceCard

/-- THE TIED CARD OF 'paxtarlaw09.PaxrecSizeIsLeast'. -/
def paxrecSizeIsLeastCard : Claim7 := { stood := { row := paxrecSizeIsLeastRow, standIns := [], harness := (true, "9e349ba97d5daffd0bdc3a143a0af8fdf2cd9dbcae3fe3e1f8d3d5acc05d58c5"), looks := true }, kinds := [], alts := [], laidByText := true, laidKinds := [.data, .data, .data, .sentinel, .sentinel, .widerDeep], laidTests := true, laidLooks := .later }
def PaxrecSizeIsLeastCardSaid : Prop := Claim7.holds Tryd.pinned (.plain (OpenSpec.ofChange paxrecSizeIsLeastSpec)) paxrecSizeIsLeastCard

/-- THE TIED CARD OF 'paxtarlaw10.FitPathPlacement'. -/
def fitPathPlacementCard : Claim7 := { stood := { row := fitPathPlacementRow, standIns := [], harness := (true, "9e349ba97d5daffd0bdc3a143a0af8fdf2cd9dbcae3fe3e1f8d3d5acc05d58c5"), looks := true }, kinds := [], alts := [], laidByText := true, laidKinds := [.data, .data, .data, .sentinel, .sentinel, .widerDeep, .widerDeep], laidTests := true, laidLooks := .later }
def FitPathPlacementCardSaid : Prop := Claim7.holds Tryd.pinned (.plain (OpenSpec.ofChange fitPathPlacementSpec)) fitPathPlacementCard

/-- THE TIED CARD OF 'paxtarlaw10.FitSizeLimits'. -/
def fitSizeLimitsCard : Claim7 := { stood := { row := fitSizeLimitsRow, standIns := [], harness := (true, "9e349ba97d5daffd0bdc3a143a0af8fdf2cd9dbcae3fe3e1f8d3d5acc05d58c5"), looks := true }, kinds := [], alts := [], laidByText := true, laidKinds := [.data, .data, .data, .sentinel, .sentinel, .widerDeep, .widerDeep], laidTests := true, laidLooks := .later }
def FitSizeLimitsCardSaid : Prop := Claim7.holds Tryd.pinned (.plain (OpenSpec.ofChange fitSizeLimitsSpec)) fitSizeLimitsCard

/-- THE TIED CARD OF 'paxtarlaw10.FitPlanMatchesReference'. -/
def fitPlanMatchesReferenceCard : Claim7 := { stood := { row := fitPlanMatchesReferenceRow, standIns := [], harness := (true, "9e349ba97d5daffd0bdc3a143a0af8fdf2cd9dbcae3fe3e1f8d3d5acc05d58c5"), looks := true }, kinds := [], alts := [], laidByText := true, laidKinds := [.data, .data, .data, .sentinel, .sentinel, .widerDeep, .widerDeep], laidTests := true, laidLooks := .later }
def FitPlanMatchesReferenceCardSaid : Prop := Claim7.holds Tryd.pinned (.plain (OpenSpec.ofChange fitPlanMatchesReferenceSpec)) fitPlanMatchesReferenceCard

/-- THE TIED CARD OF 'paxtarlaw10.FitIsInjective'. -/
def fitIsInjectiveCard : Claim7 := { stood := { row := fitIsInjectiveRow, standIns := [], harness := (true, "9e349ba97d5daffd0bdc3a143a0af8fdf2cd9dbcae3fe3e1f8d3d5acc05d58c5"), looks := true }, kinds := [], alts := [], laidByText := true, laidKinds := [.data, .data, .data, .sentinel, .sentinel, .widerDeep, .widerDeep], laidTests := true, laidLooks := .later }
def FitIsInjectiveCardSaid : Prop := Claim7.holds Tryd.pinned (.plain (OpenSpec.ofChange fitIsInjectiveSpec)) fitIsInjectiveCard

/-- THE TIED CARD OF 'paxtarlaw10.FitMergeMatchesReference'. -/
def fitMergeMatchesReferenceCard : Claim7 := { stood := { row := fitMergeMatchesReferenceRow, standIns := [], harness := (true, "9e349ba97d5daffd0bdc3a143a0af8fdf2cd9dbcae3fe3e1f8d3d5acc05d58c5"), looks := true }, kinds := [], alts := [], laidByText := true, laidKinds := [.data, .data, .data, .sentinel, .sentinel, .widerDeep, .widerDeep], laidTests := true, laidLooks := .later }
def FitMergeMatchesReferenceCardSaid : Prop := Claim7.holds Tryd.pinned (.plain (OpenSpec.ofChange fitMergeMatchesReferenceSpec)) fitMergeMatchesReferenceCard

/-- THE TIED CARD OF 'paxtarlaw10.FitIsMinimal'. -/
def fitIsMinimalCard : Claim7 := { stood := { row := fitIsMinimalRow, standIns := [], harness := (true, "9e349ba97d5daffd0bdc3a143a0af8fdf2cd9dbcae3fe3e1f8d3d5acc05d58c5"), looks := true }, kinds := [], alts := [], laidByText := true, laidKinds := [.data, .data, .data, .sentinel, .sentinel, .widerDeep, .widerDeep], laidTests := true, laidLooks := .later }
def FitIsMinimalCardSaid : Prop := Claim7.holds Tryd.pinned (.plain (OpenSpec.ofChange fitIsMinimalSpec)) fitIsMinimalCard

/-- THE TIED CARD OF 'paxtarlaw09.PaxrecParseMatchesReference'. -/
def paxrecParseMatchesReferenceCard : Claim7 := { stood := { row := paxrecParseMatchesReferenceRow, standIns := [], harness := (true, "9e349ba97d5daffd0bdc3a143a0af8fdf2cd9dbcae3fe3e1f8d3d5acc05d58c5"), looks := true }, kinds := [], alts := [], laidByText := true, laidKinds := [.data, .data, .data, .sentinel, .sentinel, .widerDeep], laidTests := true, laidLooks := .later }
def PaxrecParseMatchesReferenceCardSaid : Prop := Claim7.holds Tryd.pinned (.plain (OpenSpec.ofChange paxrecParseMatchesReferenceSpec)) paxrecParseMatchesReferenceCard

/-- THE TIED CARD OF 'paxtarlaw09.PaxrecRoundTrip'. -/
def paxrecRoundTripCard : Claim7 := { stood := { row := paxrecRoundTripRow, standIns := [], harness := (true, "9e349ba97d5daffd0bdc3a143a0af8fdf2cd9dbcae3fe3e1f8d3d5acc05d58c5"), looks := true }, kinds := [], alts := [], laidByText := true, laidKinds := [.data, .data, .data, .sentinel, .sentinel, .widerDeep], laidTests := true, laidLooks := .later }
def PaxrecRoundTripCardSaid : Prop := Claim7.holds Tryd.pinned (.plain (OpenSpec.ofChange paxrecRoundTripSpec)) paxrecRoundTripCard

/-- THE TIED CARD OF 'paxtarlaw10.FitRoundTrip'. -/
def fitRoundTripCard : Claim7 := { stood := { row := fitRoundTripRow, standIns := [], harness := (true, "9e349ba97d5daffd0bdc3a143a0af8fdf2cd9dbcae3fe3e1f8d3d5acc05d58c5"), looks := true }, kinds := [], alts := [], laidByText := true, laidKinds := [.data, .data, .data, .sentinel, .sentinel, .widerDeep, .data, .data, .data, .widerDeep], laidTests := true, laidLooks := .later }
def FitRoundTripCardSaid : Prop := Claim7.holds Tryd.pinned (.plain (OpenSpec.ofChange fitRoundTripSpec)) fitRoundTripCard

/-- THE SECOND FORM's CARD OF 'paxtarlaw09.PaxrecConcatenation'. -/
def paxrecConcatenationUptoCard : Claim7 := { stood := { row := paxrecConcatenationUptoRow, standIns := [], harness := (true, "9e349ba97d5daffd0bdc3a143a0af8fdf2cd9dbcae3fe3e1f8d3d5acc05d58c5"), looks := true }, kinds := [], alts := [], laidByText := true, laidKinds := [.data, .data, .data, .sentinel, .sentinel, .widerDeep], laidTests := true, laidLooks := .later }
def PaxrecConcatenationUptoCardSaid : Prop := Claim7.holds Tryd.pinned (.plain (OpenSpec.upto paxrecConcatenationSpec)) paxrecConcatenationUptoCard

/-- THE SECOND FORM's CARD OF 'paxtarlaw09.PaxrecKeysOrdered'. -/
def paxrecKeysOrderedUptoCard : Claim7 := { stood := { row := paxrecKeysOrderedUptoRow, standIns := [], harness := (true, "9e349ba97d5daffd0bdc3a143a0af8fdf2cd9dbcae3fe3e1f8d3d5acc05d58c5"), looks := true }, kinds := [], alts := [], laidByText := true, laidKinds := [.data, .data, .data, .sentinel, .sentinel, .widerDeep], laidTests := true, laidLooks := .later }
def PaxrecKeysOrderedUptoCardSaid : Prop := Claim7.holds Tryd.pinned (.plain (OpenSpec.upto paxrecKeysOrderedSpec)) paxrecKeysOrderedUptoCard

/-- THE SECOND FORM's CARD OF 'paxtarlaw09.PaxrecFormatMatchesReference'. -/
def paxrecFormatMatchesReferenceUptoCard : Claim7 := { stood := { row := paxrecFormatMatchesReferenceUptoRow, standIns := [], harness := (true, "9e349ba97d5daffd0bdc3a143a0af8fdf2cd9dbcae3fe3e1f8d3d5acc05d58c5"), looks := true }, kinds := [], alts := [], laidByText := true, laidKinds := [.data, .data, .data, .sentinel, .sentinel, .widerDeep], laidTests := true, laidLooks := .later }
def PaxrecFormatMatchesReferenceUptoCardSaid : Prop := Claim7.holds Tryd.pinned (.plain (OpenSpec.upto paxrecFormatMatchesReferenceSpec)) paxrecFormatMatchesReferenceUptoCard

/-- THE SECOND FORM's CARD OF 'paxtarlaw09.PaxrecSizeIsLeast'. -/
def paxrecSizeIsLeastUptoCard : Claim7 := { stood := { row := paxrecSizeIsLeastUptoRow, standIns := [], harness := (true, "9e349ba97d5daffd0bdc3a143a0af8fdf2cd9dbcae3fe3e1f8d3d5acc05d58c5"), looks := true }, kinds := [], alts := [], laidByText := true, laidKinds := [.data, .data, .data, .sentinel, .sentinel, .widerDeep], laidTests := true, laidLooks := .later }
def PaxrecSizeIsLeastUptoCardSaid : Prop := Claim7.holds Tryd.pinned (.plain (OpenSpec.upto paxrecSizeIsLeastSpec)) paxrecSizeIsLeastUptoCard

/-- THE SECOND FORM's CARD OF 'paxtarlaw10.FitPathPlacement'. -/
def fitPathPlacementUptoCard : Claim7 := { stood := { row := fitPathPlacementUptoRow, standIns := [], harness := (true, "9e349ba97d5daffd0bdc3a143a0af8fdf2cd9dbcae3fe3e1f8d3d5acc05d58c5"), looks := true }, kinds := [], alts := [], laidByText := true, laidKinds := [.data, .data, .data, .sentinel, .sentinel, .widerDeep, .widerDeep], laidTests := true, laidLooks := .later }
def FitPathPlacementUptoCardSaid : Prop := Claim7.holds Tryd.pinned (.plain (OpenSpec.upto fitPathPlacementSpec)) fitPathPlacementUptoCard

/-- THE SECOND FORM's CARD OF 'paxtarlaw10.FitSizeLimits'. -/
def fitSizeLimitsUptoCard : Claim7 := { stood := { row := fitSizeLimitsUptoRow, standIns := [], harness := (true, "9e349ba97d5daffd0bdc3a143a0af8fdf2cd9dbcae3fe3e1f8d3d5acc05d58c5"), looks := true }, kinds := [], alts := [], laidByText := true, laidKinds := [.data, .data, .data, .sentinel, .sentinel, .widerDeep, .widerDeep], laidTests := true, laidLooks := .later }
def FitSizeLimitsUptoCardSaid : Prop := Claim7.holds Tryd.pinned (.plain (OpenSpec.upto fitSizeLimitsSpec)) fitSizeLimitsUptoCard

/-- THE SECOND FORM's CARD OF 'paxtarlaw10.FitPlanMatchesReference'. -/
def fitPlanMatchesReferenceUptoCard : Claim7 := { stood := { row := fitPlanMatchesReferenceUptoRow, standIns := [], harness := (true, "9e349ba97d5daffd0bdc3a143a0af8fdf2cd9dbcae3fe3e1f8d3d5acc05d58c5"), looks := true }, kinds := [], alts := [], laidByText := true, laidKinds := [.data, .data, .data, .sentinel, .sentinel, .widerDeep, .widerDeep], laidTests := true, laidLooks := .later }
def FitPlanMatchesReferenceUptoCardSaid : Prop := Claim7.holds Tryd.pinned (.plain (OpenSpec.upto fitPlanMatchesReferenceSpec)) fitPlanMatchesReferenceUptoCard

/-- THE SECOND FORM's CARD OF 'paxtarlaw10.FitIsInjective'. -/
def fitIsInjectiveUptoCard : Claim7 := { stood := { row := fitIsInjectiveUptoRow, standIns := [], harness := (true, "9e349ba97d5daffd0bdc3a143a0af8fdf2cd9dbcae3fe3e1f8d3d5acc05d58c5"), looks := true }, kinds := [], alts := [], laidByText := true, laidKinds := [.data, .data, .data, .sentinel, .sentinel, .widerDeep, .widerDeep], laidTests := true, laidLooks := .later }
def FitIsInjectiveUptoCardSaid : Prop := Claim7.holds Tryd.pinned (.plain (OpenSpec.upto fitIsInjectiveSpec)) fitIsInjectiveUptoCard

/-- THE SECOND FORM's CARD OF 'paxtarlaw10.FitMergeMatchesReference'. -/
def fitMergeMatchesReferenceUptoCard : Claim7 := { stood := { row := fitMergeMatchesReferenceUptoRow, standIns := [], harness := (true, "9e349ba97d5daffd0bdc3a143a0af8fdf2cd9dbcae3fe3e1f8d3d5acc05d58c5"), looks := true }, kinds := [], alts := [], laidByText := true, laidKinds := [.data, .data, .data, .sentinel, .sentinel, .widerDeep, .widerDeep], laidTests := true, laidLooks := .later }
def FitMergeMatchesReferenceUptoCardSaid : Prop := Claim7.holds Tryd.pinned (.plain (OpenSpec.upto fitMergeMatchesReferenceSpec)) fitMergeMatchesReferenceUptoCard

/-- THE SECOND FORM's CARD OF 'paxtarlaw10.FitIsMinimal'. -/
def fitIsMinimalUptoCard : Claim7 := { stood := { row := fitIsMinimalUptoRow, standIns := [], harness := (true, "9e349ba97d5daffd0bdc3a143a0af8fdf2cd9dbcae3fe3e1f8d3d5acc05d58c5"), looks := true }, kinds := [], alts := [], laidByText := true, laidKinds := [.data, .data, .data, .sentinel, .sentinel, .widerDeep, .widerDeep], laidTests := true, laidLooks := .later }
def FitIsMinimalUptoCardSaid : Prop := Claim7.holds Tryd.pinned (.plain (OpenSpec.upto fitIsMinimalSpec)) fitIsMinimalUptoCard

/-- THE SECOND FORM's CARD OF 'paxtarlaw09.PaxrecParseMatchesReference'. -/
def paxrecParseMatchesReferenceUptoCard : Claim7 := { stood := { row := paxrecParseMatchesReferenceUptoRow, standIns := [], harness := (true, "9e349ba97d5daffd0bdc3a143a0af8fdf2cd9dbcae3fe3e1f8d3d5acc05d58c5"), looks := true }, kinds := [], alts := [], laidByText := true, laidKinds := [.data, .data, .data, .sentinel, .sentinel, .widerDeep], laidTests := true, laidLooks := .later }
def PaxrecParseMatchesReferenceUptoCardSaid : Prop := Claim7.holds Tryd.pinned (.plain (OpenSpec.upto paxrecParseMatchesReferenceSpec)) paxrecParseMatchesReferenceUptoCard

/-- THE SECOND FORM's CARD OF 'paxtarlaw09.PaxrecRoundTrip'. -/
def paxrecRoundTripUptoCard : Claim7 := { stood := { row := paxrecRoundTripUptoRow, standIns := [], harness := (true, "9e349ba97d5daffd0bdc3a143a0af8fdf2cd9dbcae3fe3e1f8d3d5acc05d58c5"), looks := true }, kinds := [], alts := [], laidByText := true, laidKinds := [.data, .data, .data, .sentinel, .sentinel, .widerDeep], laidTests := true, laidLooks := .later }
def PaxrecRoundTripUptoCardSaid : Prop := Claim7.holds Tryd.pinned (.plain (OpenSpec.upto paxrecRoundTripSpec)) paxrecRoundTripUptoCard

/-- THE SECOND FORM's CARD OF 'paxtarlaw10.FitRoundTrip'. -/
def fitRoundTripUptoCard : Claim7 := { stood := { row := fitRoundTripUptoRow, standIns := [], harness := (true, "9e349ba97d5daffd0bdc3a143a0af8fdf2cd9dbcae3fe3e1f8d3d5acc05d58c5"), looks := true }, kinds := [], alts := [], laidByText := true, laidKinds := [.data, .data, .data, .sentinel, .sentinel, .widerDeep, .data, .data, .data, .widerDeep], laidTests := true, laidLooks := .later }
def FitRoundTripUptoCardSaid : Prop := Claim7.holds Tryd.pinned (.plain (OpenSpec.upto fitRoundTripSpec)) fitRoundTripUptoCard
end Rows
end Go.Proofs.YtkcgabodpcfohaaDoor
