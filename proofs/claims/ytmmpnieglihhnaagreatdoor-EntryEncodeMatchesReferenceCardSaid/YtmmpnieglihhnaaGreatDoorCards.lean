/-
  DERIVED. GIVEN WITH THE SEED: THE CARDS: each row of YtmmpnieglihhnaaGreatDoorRows.lean that lists a variable, with what it lists TIED to the program's text (the seventh form; the later family's looks); each row that meets fmt, with fmt's text TOLD by the authors' own Lean function (tested against real Go, not proved from fmt's source: count such statements apart). THE CARD IS WHAT COUNTS. Prove the row's statement (the work); the ties are given (YtmmpnieglihhnaaGreatDoorTie.lean); close each card by the builder's one call (the guide's Derived/Test/ToyasCard.lean, 'card_holds'). Laid BY PROGRAM, IN A SANDBOX (cutbox-door.mjs). By AI agents, Wed Nov 11 2026. No macro, syntax, notation, axiom, sorry.
-/
import Derived.Test.YtmmpnieglihhnaaGreatDoorRows
import GoSem.ClaimSeven
namespace Go.Proofs.YtmmpnieglihhnaaGreatDoor
namespace Rows

/-- THE TIED CARD OF 'paxtarlaw12.EntryEncodeMatchesReference'. -/
def entryEncodeMatchesReferenceCard : Claim7 := { stood := { row := entryEncodeMatchesReferenceRow, standIns := [], harness := (true, "40f35b579bdc6df2800db6abad357ee7bbc77f6d2d0237a5c1e0e6ac41196734"), looks := true }, kinds := [], alts := [], laidByText := true, laidKinds := [.data, .data, .data, .sentinel, .sentinel, .widerDeep, .data, .wider, .data, .data, .wider, .data, .wider, .data, .data, .data, .data, .data, .widerDeep], laidTests := true, laidLooks := .later }
def EntryEncodeMatchesReferenceCardSaid : Prop := Claim7.holds Tryz.pinned (.plain (OpenSpec.ofChange entryEncodeMatchesReferenceSpec)) entryEncodeMatchesReferenceCard

/-- THE SECOND FORM's CARD OF 'paxtarlaw12.EntryEncodeMatchesReference'. -/
def entryEncodeMatchesReferenceUptoCard : Claim7 := { stood := { row := entryEncodeMatchesReferenceUptoRow, standIns := [], harness := (true, "40f35b579bdc6df2800db6abad357ee7bbc77f6d2d0237a5c1e0e6ac41196734"), looks := true }, kinds := [], alts := [], laidByText := true, laidKinds := [.data, .data, .data, .sentinel, .sentinel, .widerDeep, .data, .wider, .data, .data, .wider, .data, .wider, .data, .data, .data, .data, .data, .widerDeep], laidTests := true, laidLooks := .later }
def EntryEncodeMatchesReferenceUptoCardSaid : Prop := Claim7.holds Tryz.pinned (.plain (OpenSpec.upto entryEncodeMatchesReferenceSpec)) entryEncodeMatchesReferenceUptoCard
end Rows
end Go.Proofs.YtmmpnieglihhnaaGreatDoor
