/-
  DERIVED. GIVEN WITH THE SEED: THE CARDS: each row of YtknimfbagbkjfaaDoorRows.lean that lists a variable, with what it lists TIED to the program's text (the seventh form; the later family's looks); each row that meets fmt, with fmt's text TOLD by the authors' own Lean function (tested against real Go, not proved from fmt's source: count such statements apart). THE CARD IS WHAT COUNTS. Prove the row's statement (the work); the ties are given (YtknimfbagbkjfaaDoorTie.lean); close each card by the builder's one call (the guide's Derived/Test/ToyasCard.lean, 'card_holds'). Laid BY PROGRAM, IN A SANDBOX (cutbox-door.mjs). By AI agents, Wed Nov 11 2026. No macro, syntax, notation, axiom, sorry.
-/
import Derived.Test.YtknimfbagbkjfaaDoorRows
import GoSem.ClaimSeven
namespace Go.Proofs.YtknimfbagbkjfaaDoor
namespace Rows

/-- THE TIED CARD OF 'paxtarlaw15.RebuildMatchesReference'. -/
def rebuildMatchesReferenceCard : Claim7 := { stood := { row := rebuildMatchesReferenceRow, standIns := [], harness := (true, "a1fa02718b58ee43279a657336b361d896f49c71019d1ab936c169985b1e077a"), looks := true }, kinds := [], alts := [], laidByText := true, laidKinds := [.data, .data, .data, .sentinel, .sentinel, .widerDeep], laidTests := true, laidLooks := .later }
def RebuildMatchesReferenceCardSaid : Prop := Claim7.holds Tryd.pinned (.plain (OpenSpec.ofChange rebuildMatchesReferenceSpec)) rebuildMatchesReferenceCard

/-- THE TIED CARD OF 'paxtarlaw15.RebuildIsolated'. -/
def rebuildIsolatedCard : Claim7 := { stood := { row := rebuildIsolatedRow, standIns := [], harness := (true, "a1fa02718b58ee43279a657336b361d896f49c71019d1ab936c169985b1e077a"), looks := true }, kinds := [], alts := [], laidByText := true, laidKinds := [.data, .data, .data, .sentinel, .sentinel, .widerDeep], laidTests := true, laidLooks := .later }
def RebuildIsolatedCardSaid : Prop := Claim7.holds Tryd.pinned (.plain (OpenSpec.ofChange rebuildIsolatedSpec)) rebuildIsolatedCard

/-- THE TIED CARD OF 'paxtarlaw15.RebuildCheckIsPure'. -/
def rebuildCheckIsPureCard : Claim7 := { stood := { row := rebuildCheckIsPureRow, standIns := [], harness := (true, "a1fa02718b58ee43279a657336b361d896f49c71019d1ab936c169985b1e077a"), looks := true }, kinds := [], alts := [], laidByText := true, laidKinds := [.data, .data, .data, .sentinel, .sentinel, .widerDeep], laidTests := true, laidLooks := .later }
def RebuildCheckIsPureCardSaid : Prop := Claim7.holds Tryd.pinned (.plain (OpenSpec.ofChange rebuildCheckIsPureSpec)) rebuildCheckIsPureCard

/-- THE TIED CARD OF 'paxtarlaw14.FlattenMembersMatchReference'. -/
def flattenMembersMatchReferenceCard : Claim7 := { stood := { row := flattenMembersMatchReferenceRow, standIns := [], harness := (true, "a1fa02718b58ee43279a657336b361d896f49c71019d1ab936c169985b1e077a"), looks := true }, kinds := [], alts := [], laidByText := true, laidKinds := [.data, .data, .data, .sentinel, .sentinel, .widerDeep], laidTests := true, laidLooks := .later }
def FlattenMembersMatchReferenceCardSaid : Prop := Claim7.holds Tryd.pinned (.plain (OpenSpec.ofChange flattenMembersMatchReferenceSpec)) flattenMembersMatchReferenceCard

/-- THE TIED CARD OF 'paxtarlaw14.FlattenDependsOnTree'. -/
def flattenDependsOnTreeCard : Claim7 := { stood := { row := flattenDependsOnTreeRow, standIns := [], harness := (true, "a1fa02718b58ee43279a657336b361d896f49c71019d1ab936c169985b1e077a"), looks := true }, kinds := [], alts := [], laidByText := true, laidKinds := [.data, .data, .data, .sentinel, .sentinel, .widerDeep], laidTests := true, laidLooks := .later }
def FlattenDependsOnTreeCardSaid : Prop := Claim7.holds Tryd.pinned (.plain (OpenSpec.ofChange flattenDependsOnTreeSpec)) flattenDependsOnTreeCard

/-- THE TIED CARD OF 'paxtarlaw14.FlattenHardLinks'. -/
def flattenHardLinksCard : Claim7 := { stood := { row := flattenHardLinksRow, standIns := [], harness := (true, "a1fa02718b58ee43279a657336b361d896f49c71019d1ab936c169985b1e077a"), looks := true }, kinds := [], alts := [], laidByText := true, laidKinds := [.data, .data, .data, .sentinel, .sentinel, .widerDeep], laidTests := true, laidLooks := .later }
def FlattenHardLinksCardSaid : Prop := Claim7.holds Tryd.pinned (.plain (OpenSpec.ofChange flattenHardLinksSpec)) flattenHardLinksCard

/-- THE TIED CARD OF 'paxtarlaw15.RebuildInvertsFlatten'. -/
def rebuildInvertsFlattenCard : Claim7 := { stood := { row := rebuildInvertsFlattenRow, standIns := [], harness := (true, "a1fa02718b58ee43279a657336b361d896f49c71019d1ab936c169985b1e077a"), looks := true }, kinds := [], alts := [], laidByText := true, laidKinds := [.data, .data, .data, .sentinel, .sentinel, .widerDeep], laidTests := true, laidLooks := .later }
def RebuildInvertsFlattenCardSaid : Prop := Claim7.holds Tryd.pinned (.plain (OpenSpec.ofChange rebuildInvertsFlattenSpec)) rebuildInvertsFlattenCard

/-- THE TIED CARD OF 'paxtarlaw15.RebuildIsStrict'. -/
def rebuildIsStrictCard : Claim7 := { stood := { row := rebuildIsStrictRow, standIns := [], harness := (true, "a1fa02718b58ee43279a657336b361d896f49c71019d1ab936c169985b1e077a"), looks := true }, kinds := [], alts := [], laidByText := true, laidKinds := [.data, .data, .data, .sentinel, .sentinel, .widerDeep], laidTests := true, laidLooks := .later }
def RebuildIsStrictCardSaid : Prop := Claim7.holds Tryd.pinned (.plain (OpenSpec.ofChange rebuildIsStrictSpec)) rebuildIsStrictCard

/-- THE TIED CARD OF 'paxtarlaw15.RebuildPrefixIsValid'. -/
def rebuildPrefixIsValidCard : Claim7 := { stood := { row := rebuildPrefixIsValidRow, standIns := [], harness := (true, "a1fa02718b58ee43279a657336b361d896f49c71019d1ab936c169985b1e077a"), looks := true }, kinds := [], alts := [], laidByText := true, laidKinds := [.data, .data, .data, .sentinel, .sentinel, .widerDeep], laidTests := true, laidLooks := .later }
def RebuildPrefixIsValidCardSaid : Prop := Claim7.holds Tryd.pinned (.plain (OpenSpec.ofChange rebuildPrefixIsValidSpec)) rebuildPrefixIsValidCard

/-- THE SECOND FORM's CARD OF 'paxtarlaw15.RebuildMatchesReference'. -/
def rebuildMatchesReferenceUptoCard : Claim7 := { stood := { row := rebuildMatchesReferenceUptoRow, standIns := [], harness := (true, "a1fa02718b58ee43279a657336b361d896f49c71019d1ab936c169985b1e077a"), looks := true }, kinds := [], alts := [], laidByText := true, laidKinds := [.data, .data, .data, .sentinel, .sentinel, .widerDeep], laidTests := true, laidLooks := .later }
def RebuildMatchesReferenceUptoCardSaid : Prop := Claim7.holds Tryd.pinned (.plain (OpenSpec.upto rebuildMatchesReferenceSpec)) rebuildMatchesReferenceUptoCard

/-- THE SECOND FORM's CARD OF 'paxtarlaw15.RebuildIsolated'. -/
def rebuildIsolatedUptoCard : Claim7 := { stood := { row := rebuildIsolatedUptoRow, standIns := [], harness := (true, "a1fa02718b58ee43279a657336b361d896f49c71019d1ab936c169985b1e077a"), looks := true }, kinds := [], alts := [], laidByText := true, laidKinds := [.data, .data, .data, .sentinel, .sentinel, .widerDeep], laidTests := true, laidLooks := .later }
def RebuildIsolatedUptoCardSaid : Prop := Claim7.holds Tryd.pinned (.plain (OpenSpec.upto rebuildIsolatedSpec)) rebuildIsolatedUptoCard

/-- THE SECOND FORM's CARD OF 'paxtarlaw15.RebuildCheckIsPure'. -/
def rebuildCheckIsPureUptoCard : Claim7 := { stood := { row := rebuildCheckIsPureUptoRow, standIns := [], harness := (true, "a1fa02718b58ee43279a657336b361d896f49c71019d1ab936c169985b1e077a"), looks := true }, kinds := [], alts := [], laidByText := true, laidKinds := [.data, .data, .data, .sentinel, .sentinel, .widerDeep], laidTests := true, laidLooks := .later }
def RebuildCheckIsPureUptoCardSaid : Prop := Claim7.holds Tryd.pinned (.plain (OpenSpec.upto rebuildCheckIsPureSpec)) rebuildCheckIsPureUptoCard

/-- THE SECOND FORM's CARD OF 'paxtarlaw14.FlattenMembersMatchReference'. -/
def flattenMembersMatchReferenceUptoCard : Claim7 := { stood := { row := flattenMembersMatchReferenceUptoRow, standIns := [], harness := (true, "a1fa02718b58ee43279a657336b361d896f49c71019d1ab936c169985b1e077a"), looks := true }, kinds := [], alts := [], laidByText := true, laidKinds := [.data, .data, .data, .sentinel, .sentinel, .widerDeep], laidTests := true, laidLooks := .later }
def FlattenMembersMatchReferenceUptoCardSaid : Prop := Claim7.holds Tryd.pinned (.plain (OpenSpec.upto flattenMembersMatchReferenceSpec)) flattenMembersMatchReferenceUptoCard

/-- THE SECOND FORM's CARD OF 'paxtarlaw14.FlattenDependsOnTree'. -/
def flattenDependsOnTreeUptoCard : Claim7 := { stood := { row := flattenDependsOnTreeUptoRow, standIns := [], harness := (true, "a1fa02718b58ee43279a657336b361d896f49c71019d1ab936c169985b1e077a"), looks := true }, kinds := [], alts := [], laidByText := true, laidKinds := [.data, .data, .data, .sentinel, .sentinel, .widerDeep], laidTests := true, laidLooks := .later }
def FlattenDependsOnTreeUptoCardSaid : Prop := Claim7.holds Tryd.pinned (.plain (OpenSpec.upto flattenDependsOnTreeSpec)) flattenDependsOnTreeUptoCard

/-- THE SECOND FORM's CARD OF 'paxtarlaw14.FlattenHardLinks'. -/
def flattenHardLinksUptoCard : Claim7 := { stood := { row := flattenHardLinksUptoRow, standIns := [], harness := (true, "a1fa02718b58ee43279a657336b361d896f49c71019d1ab936c169985b1e077a"), looks := true }, kinds := [], alts := [], laidByText := true, laidKinds := [.data, .data, .data, .sentinel, .sentinel, .widerDeep], laidTests := true, laidLooks := .later }
def FlattenHardLinksUptoCardSaid : Prop := Claim7.holds Tryd.pinned (.plain (OpenSpec.upto flattenHardLinksSpec)) flattenHardLinksUptoCard

/-- THE SECOND FORM's CARD OF 'paxtarlaw15.RebuildInvertsFlatten'. -/
def rebuildInvertsFlattenUptoCard : Claim7 := { stood := { row := rebuildInvertsFlattenUptoRow, standIns := [], harness := (true, "a1fa02718b58ee43279a657336b361d896f49c71019d1ab936c169985b1e077a"), looks := true }, kinds := [], alts := [], laidByText := true, laidKinds := [.data, .data, .data, .sentinel, .sentinel, .widerDeep], laidTests := true, laidLooks := .later }
def RebuildInvertsFlattenUptoCardSaid : Prop := Claim7.holds Tryd.pinned (.plain (OpenSpec.upto rebuildInvertsFlattenSpec)) rebuildInvertsFlattenUptoCard

/-- THE SECOND FORM's CARD OF 'paxtarlaw15.RebuildIsStrict'. -/
def rebuildIsStrictUptoCard : Claim7 := { stood := { row := rebuildIsStrictUptoRow, standIns := [], harness := (true, "a1fa02718b58ee43279a657336b361d896f49c71019d1ab936c169985b1e077a"), looks := true }, kinds := [], alts := [], laidByText := true, laidKinds := [.data, .data, .data, .sentinel, .sentinel, .widerDeep], laidTests := true, laidLooks := .later }
def RebuildIsStrictUptoCardSaid : Prop := Claim7.holds Tryd.pinned (.plain (OpenSpec.upto rebuildIsStrictSpec)) rebuildIsStrictUptoCard

/-- THE SECOND FORM's CARD OF 'paxtarlaw15.RebuildPrefixIsValid'. -/
def rebuildPrefixIsValidUptoCard : Claim7 := { stood := { row := rebuildPrefixIsValidUptoRow, standIns := [], harness := (true, "a1fa02718b58ee43279a657336b361d896f49c71019d1ab936c169985b1e077a"), looks := true }, kinds := [], alts := [], laidByText := true, laidKinds := [.data, .data, .data, .sentinel, .sentinel, .widerDeep], laidTests := true, laidLooks := .later }
def RebuildPrefixIsValidUptoCardSaid : Prop := Claim7.holds Tryd.pinned (.plain (OpenSpec.upto rebuildPrefixIsValidSpec)) rebuildPrefixIsValidUptoCard
end Rows
end Go.Proofs.YtknimfbagbkjfaaDoor
