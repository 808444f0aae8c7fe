/-
  DERIVED. GIVEN WITH THE SEED: THE CARDS: each row of YtknimfbagbkjfaaGreatDoorRows.lean that lists a variable, with what it lists TIED to the program's text (the seventh form; the later family's looks); each row that meets fmt, with fmt's text TOLD by the authors' own Lean function (tested against real Go, not proved from fmt's source: count such statements apart). THE CARD IS WHAT COUNTS. Prove the row's statement (the work); the ties are given (YtknimfbagbkjfaaGreatDoorTie.lean); close each card by the builder's one call (the guide's Derived/Test/ToyasCard.lean, 'card_holds'). Laid BY PROGRAM, IN A SANDBOX (cutbox-door.mjs). By AI agents, Wed Nov 11 2026. No macro, syntax, notation, axiom, sorry.
-/
import Derived.Test.YtknimfbagbkjfaaGreatDoorRows
import GoSem.ClaimSeven
namespace Go.Proofs.YtknimfbagbkjfaaGreatDoor
namespace Rows

/-- THE TIED CARD OF 'paxtarlaw14.FlattenOrder'. -/
def flattenOrderCard : Claim7 := { stood := { row := flattenOrderRow, standIns := [], harness := (true, "aee54196150c50afda757abbe8183b355524762f03fd183b4e978dc47aed23f7"), looks := true }, kinds := [], alts := [], laidByText := true, laidKinds := [.data, .data, .data, .sentinel, .sentinel, .widerDeep, .data, .wider, .data, .data, .wider, .data, .wider, .data, .data, .data, .data, .data, .widerDeep], laidTests := true, laidLooks := .later }
def FlattenOrderCardSaid : Prop := Claim7.holds Tryz.pinned (.plain (OpenSpec.ofChange flattenOrderSpec)) flattenOrderCard

/-- THE TIED CARD OF 'paxtarlaw14.FlattenSizeMatchesReference'. -/
def flattenSizeMatchesReferenceCard : Claim7 := { stood := { row := flattenSizeMatchesReferenceRow, standIns := [], harness := (true, "aee54196150c50afda757abbe8183b355524762f03fd183b4e978dc47aed23f7"), looks := true }, kinds := [], alts := [], laidByText := true, laidKinds := [.data, .data, .data, .sentinel, .sentinel, .widerDeep, .data, .wider, .data, .data, .wider, .data, .wider, .data, .data, .data, .data, .data, .widerDeep], laidTests := true, laidLooks := .later }
def FlattenSizeMatchesReferenceCardSaid : Prop := Claim7.holds Tryz.pinned (.plain (OpenSpec.ofChange flattenSizeMatchesReferenceSpec)) flattenSizeMatchesReferenceCard

/-- THE TIED CARD OF 'paxtarlaw14.FlattenSizeAdds'. -/
def flattenSizeAddsCard : Claim7 := { stood := { row := flattenSizeAddsRow, standIns := [], harness := (true, "aee54196150c50afda757abbe8183b355524762f03fd183b4e978dc47aed23f7"), looks := true }, kinds := [], alts := [], laidByText := true, laidKinds := [.data, .data, .data, .sentinel, .sentinel, .widerDeep, .data, .wider, .data, .data, .wider, .data, .wider, .data, .data, .data, .data, .data, .widerDeep], laidTests := true, laidLooks := .later }
def FlattenSizeAddsCardSaid : Prop := Claim7.holds Tryz.pinned (.plain (OpenSpec.ofChange flattenSizeAddsSpec)) flattenSizeAddsCard

/-- THE SECOND FORM's CARD OF 'paxtarlaw14.FlattenOrder'. -/
def flattenOrderUptoCard : Claim7 := { stood := { row := flattenOrderUptoRow, standIns := [], harness := (true, "aee54196150c50afda757abbe8183b355524762f03fd183b4e978dc47aed23f7"), looks := true }, kinds := [], alts := [], laidByText := true, laidKinds := [.data, .data, .data, .sentinel, .sentinel, .widerDeep, .data, .wider, .data, .data, .wider, .data, .wider, .data, .data, .data, .data, .data, .widerDeep], laidTests := true, laidLooks := .later }
def FlattenOrderUptoCardSaid : Prop := Claim7.holds Tryz.pinned (.plain (OpenSpec.upto flattenOrderSpec)) flattenOrderUptoCard

/-- THE SECOND FORM's CARD OF 'paxtarlaw14.FlattenSizeMatchesReference'. -/
def flattenSizeMatchesReferenceUptoCard : Claim7 := { stood := { row := flattenSizeMatchesReferenceUptoRow, standIns := [], harness := (true, "aee54196150c50afda757abbe8183b355524762f03fd183b4e978dc47aed23f7"), looks := true }, kinds := [], alts := [], laidByText := true, laidKinds := [.data, .data, .data, .sentinel, .sentinel, .widerDeep, .data, .wider, .data, .data, .wider, .data, .wider, .data, .data, .data, .data, .data, .widerDeep], laidTests := true, laidLooks := .later }
def FlattenSizeMatchesReferenceUptoCardSaid : Prop := Claim7.holds Tryz.pinned (.plain (OpenSpec.upto flattenSizeMatchesReferenceSpec)) flattenSizeMatchesReferenceUptoCard

/-- THE SECOND FORM's CARD OF 'paxtarlaw14.FlattenSizeAdds'. -/
def flattenSizeAddsUptoCard : Claim7 := { stood := { row := flattenSizeAddsUptoRow, standIns := [], harness := (true, "aee54196150c50afda757abbe8183b355524762f03fd183b4e978dc47aed23f7"), looks := true }, kinds := [], alts := [], laidByText := true, laidKinds := [.data, .data, .data, .sentinel, .sentinel, .widerDeep, .data, .wider, .data, .data, .wider, .data, .wider, .data, .data, .data, .data, .data, .widerDeep], laidTests := true, laidLooks := .later }
def FlattenSizeAddsUptoCardSaid : Prop := Claim7.holds Tryz.pinned (.plain (OpenSpec.upto flattenSizeAddsSpec)) flattenSizeAddsUptoCard
end Rows
end Go.Proofs.YtknimfbagbkjfaaGreatDoor
