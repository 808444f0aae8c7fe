/-
  DERIVED. GIVEN WITH THE SEED: THE CARDS: each row of YtolfadbbhocikaaDoorRows.lean that lists a variable, with what it lists TIED to the program's text (the seventh form; the later family's looks); each row that meets fmt, with fmt's text TOLD by the authors' own Lean function (tested against real Go, not proved from fmt's source: count such statements apart). THE CARD IS WHAT COUNTS. Prove the row's statement (the work); the ties are given (YtolfadbbhocikaaDoorTie.lean); close each card by the builder's one call (the guide's Derived/Test/ToyasCard.lean, 'card_holds'). Laid BY PROGRAM, IN A SANDBOX (cutbox-door.mjs). By AI agents, Wed Nov 11 2026. No macro, syntax, notation, axiom, sorry.
-/
import Derived.Test.YtolfadbbhocikaaDoorRows
import GoSem.ClaimSeven
namespace Go.Proofs.YtolfadbbhocikaaDoor
namespace Rows

/-- THE TIED CARD OF 'paxtarlaw13.TreeRemoveNode'. -/
def treeRemoveNodeCard : Claim7 := { stood := { row := treeRemoveNodeRow, standIns := [], harness := (true, "c861be81c5c883821f55c2a8ec38f81f192d4e5a262d1ffc1497dffb1ea313f3"), looks := true }, kinds := [], alts := [], laidByText := true, laidKinds := [.data, .data, .data, .sentinel, .sentinel, .widerDeep], laidTests := true, laidLooks := .later }
def TreeRemoveNodeCardSaid : Prop := Claim7.holds Tryd.pinned (.plain (OpenSpec.ofChange treeRemoveNodeSpec)) treeRemoveNodeCard

/-- THE TIED CARD OF 'paxtarlaw13.TreeClassesMustAgree'. -/
def treeClassesMustAgreeCard : Claim7 := { stood := { row := treeClassesMustAgreeRow, standIns := [], harness := (true, "c861be81c5c883821f55c2a8ec38f81f192d4e5a262d1ffc1497dffb1ea313f3"), looks := true }, kinds := [], alts := [], laidByText := true, laidKinds := [.data, .data, .data, .sentinel, .sentinel, .widerDeep], laidTests := true, laidLooks := .later }
def TreeClassesMustAgreeCardSaid : Prop := Claim7.holds Tryd.pinned (.plain (OpenSpec.ofChange treeClassesMustAgreeSpec)) treeClassesMustAgreeCard

/-- THE TIED CARD OF 'paxtarlaw13.TreeCheckMatchesReference'. -/
def treeCheckMatchesReferenceCard : Claim7 := { stood := { row := treeCheckMatchesReferenceRow, standIns := [], harness := (true, "c861be81c5c883821f55c2a8ec38f81f192d4e5a262d1ffc1497dffb1ea313f3"), looks := true }, kinds := [], alts := [], laidByText := true, laidKinds := [.data, .data, .data, .sentinel, .sentinel, .widerDeep], laidTests := true, laidLooks := .later }
def TreeCheckMatchesReferenceCardSaid : Prop := Claim7.holds Tryd.pinned (.plain (OpenSpec.ofChange treeCheckMatchesReferenceSpec)) treeCheckMatchesReferenceCard

/-- THE TIED CARD OF 'paxtarlaw13.TreeAddNode'. -/
def treeAddNodeCard : Claim7 := { stood := { row := treeAddNodeRow, standIns := [], harness := (true, "c861be81c5c883821f55c2a8ec38f81f192d4e5a262d1ffc1497dffb1ea313f3"), looks := true }, kinds := [], alts := [], laidByText := true, laidKinds := [.data, .data, .data, .sentinel, .sentinel, .widerDeep], laidTests := true, laidLooks := .later }
def TreeAddNodeCardSaid : Prop := Claim7.holds Tryd.pinned (.plain (OpenSpec.ofChange treeAddNodeSpec)) treeAddNodeCard

/-- THE TIED CARD OF 'paxtarlaw13.TreeIsolated'. -/
def treeIsolatedCard : Claim7 := { stood := { row := treeIsolatedRow, standIns := [], harness := (true, "c861be81c5c883821f55c2a8ec38f81f192d4e5a262d1ffc1497dffb1ea313f3"), looks := true }, kinds := [], alts := [], laidByText := true, laidKinds := [.data, .data, .data, .sentinel, .sentinel, .widerDeep], laidTests := true, laidLooks := .later }
def TreeIsolatedCardSaid : Prop := Claim7.holds Tryd.pinned (.plain (OpenSpec.ofChange treeIsolatedSpec)) treeIsolatedCard

/-- THE TIED CARD OF 'paxtarlaw13.TreeCanonMatchesReference'. -/
def treeCanonMatchesReferenceCard : Claim7 := { stood := { row := treeCanonMatchesReferenceRow, standIns := [], harness := (true, "c861be81c5c883821f55c2a8ec38f81f192d4e5a262d1ffc1497dffb1ea313f3"), looks := true }, kinds := [], alts := [], laidByText := true, laidKinds := [.data, .data, .data, .sentinel, .sentinel, .widerDeep], laidTests := true, laidLooks := .later }
def TreeCanonMatchesReferenceCardSaid : Prop := Claim7.holds Tryd.pinned (.plain (OpenSpec.ofChange treeCanonMatchesReferenceSpec)) treeCanonMatchesReferenceCard

/-- THE TIED CARD OF 'paxtarlaw13.TreeCanonIsCanonical'. -/
def treeCanonIsCanonicalCard : Claim7 := { stood := { row := treeCanonIsCanonicalRow, standIns := [], harness := (true, "c861be81c5c883821f55c2a8ec38f81f192d4e5a262d1ffc1497dffb1ea313f3"), looks := true }, kinds := [], alts := [], laidByText := true, laidKinds := [.data, .data, .data, .sentinel, .sentinel, .widerDeep], laidTests := true, laidLooks := .later }
def TreeCanonIsCanonicalCardSaid : Prop := Claim7.holds Tryd.pinned (.plain (OpenSpec.ofChange treeCanonIsCanonicalSpec)) treeCanonIsCanonicalCard

/-- THE SECOND FORM's CARD OF 'paxtarlaw13.TreeRemoveNode'. -/
def treeRemoveNodeUptoCard : Claim7 := { stood := { row := treeRemoveNodeUptoRow, standIns := [], harness := (true, "c861be81c5c883821f55c2a8ec38f81f192d4e5a262d1ffc1497dffb1ea313f3"), looks := true }, kinds := [], alts := [], laidByText := true, laidKinds := [.data, .data, .data, .sentinel, .sentinel, .widerDeep], laidTests := true, laidLooks := .later }
def TreeRemoveNodeUptoCardSaid : Prop := Claim7.holds Tryd.pinned (.plain (OpenSpec.upto treeRemoveNodeSpec)) treeRemoveNodeUptoCard

/-- THE SECOND FORM's CARD OF 'paxtarlaw13.TreeClassesMustAgree'. -/
def treeClassesMustAgreeUptoCard : Claim7 := { stood := { row := treeClassesMustAgreeUptoRow, standIns := [], harness := (true, "c861be81c5c883821f55c2a8ec38f81f192d4e5a262d1ffc1497dffb1ea313f3"), looks := true }, kinds := [], alts := [], laidByText := true, laidKinds := [.data, .data, .data, .sentinel, .sentinel, .widerDeep], laidTests := true, laidLooks := .later }
def TreeClassesMustAgreeUptoCardSaid : Prop := Claim7.holds Tryd.pinned (.plain (OpenSpec.upto treeClassesMustAgreeSpec)) treeClassesMustAgreeUptoCard

/-- THE SECOND FORM's CARD OF 'paxtarlaw13.TreeCheckMatchesReference'. -/
def treeCheckMatchesReferenceUptoCard : Claim7 := { stood := { row := treeCheckMatchesReferenceUptoRow, standIns := [], harness := (true, "c861be81c5c883821f55c2a8ec38f81f192d4e5a262d1ffc1497dffb1ea313f3"), looks := true }, kinds := [], alts := [], laidByText := true, laidKinds := [.data, .data, .data, .sentinel, .sentinel, .widerDeep], laidTests := true, laidLooks := .later }
def TreeCheckMatchesReferenceUptoCardSaid : Prop := Claim7.holds Tryd.pinned (.plain (OpenSpec.upto treeCheckMatchesReferenceSpec)) treeCheckMatchesReferenceUptoCard

/-- THE SECOND FORM's CARD OF 'paxtarlaw13.TreeAddNode'. -/
def treeAddNodeUptoCard : Claim7 := { stood := { row := treeAddNodeUptoRow, standIns := [], harness := (true, "c861be81c5c883821f55c2a8ec38f81f192d4e5a262d1ffc1497dffb1ea313f3"), looks := true }, kinds := [], alts := [], laidByText := true, laidKinds := [.data, .data, .data, .sentinel, .sentinel, .widerDeep], laidTests := true, laidLooks := .later }
def TreeAddNodeUptoCardSaid : Prop := Claim7.holds Tryd.pinned (.plain (OpenSpec.upto treeAddNodeSpec)) treeAddNodeUptoCard

/-- THE SECOND FORM's CARD OF 'paxtarlaw13.TreeIsolated'. -/
def treeIsolatedUptoCard : Claim7 := { stood := { row := treeIsolatedUptoRow, standIns := [], harness := (true, "c861be81c5c883821f55c2a8ec38f81f192d4e5a262d1ffc1497dffb1ea313f3"), looks := true }, kinds := [], alts := [], laidByText := true, laidKinds := [.data, .data, .data, .sentinel, .sentinel, .widerDeep], laidTests := true, laidLooks := .later }
def TreeIsolatedUptoCardSaid : Prop := Claim7.holds Tryd.pinned (.plain (OpenSpec.upto treeIsolatedSpec)) treeIsolatedUptoCard

/-- THE SECOND FORM's CARD OF 'paxtarlaw13.TreeCanonMatchesReference'. -/
def treeCanonMatchesReferenceUptoCard : Claim7 := { stood := { row := treeCanonMatchesReferenceUptoRow, standIns := [], harness := (true, "c861be81c5c883821f55c2a8ec38f81f192d4e5a262d1ffc1497dffb1ea313f3"), looks := true }, kinds := [], alts := [], laidByText := true, laidKinds := [.data, .data, .data, .sentinel, .sentinel, .widerDeep], laidTests := true, laidLooks := .later }
def TreeCanonMatchesReferenceUptoCardSaid : Prop := Claim7.holds Tryd.pinned (.plain (OpenSpec.upto treeCanonMatchesReferenceSpec)) treeCanonMatchesReferenceUptoCard

/-- THE SECOND FORM's CARD OF 'paxtarlaw13.TreeCanonIsCanonical'. -/
def treeCanonIsCanonicalUptoCard : Claim7 := { stood := { row := treeCanonIsCanonicalUptoRow, standIns := [], harness := (true, "c861be81c5c883821f55c2a8ec38f81f192d4e5a262d1ffc1497dffb1ea313f3"), looks := true }, kinds := [], alts := [], laidByText := true, laidKinds := [.data, .data, .data, .sentinel, .sentinel, .widerDeep], laidTests := true, laidLooks := .later }
def TreeCanonIsCanonicalUptoCardSaid : Prop := Claim7.holds Tryd.pinned (.plain (OpenSpec.upto treeCanonIsCanonicalSpec)) treeCanonIsCanonicalUptoCard
end Rows
end Go.Proofs.YtolfadbbhocikaaDoor
