/- Appending to an empty row without room: nothing that stood before is written. -/
import Derived.Test.YtknimfbagbkjfaaGreatDoorRws
set_option linter.unusedSimpArgs false
set_option linter.unusedVariables false
set_option linter.unusedSectionVars false
namespace Go.Xp

section
variable {P : Program} {n : Nat} {e : Env} {h : Heap} {d : Option Tmp} {t : TypeId} {pos : String} {af : Array Edge} {g : Option (Nat × Bool)}
variable {T E : TypeId} {x y : Operand} {v u : Value} {β : Type} {S : Sch β} {l2 : List β} {z base : Nat}
/-- An empty row of the call's own, without room. -/
structure RowsE (S : Sch β) (h : Heap) (base : Nat) (v : Value) : Prop where
  own : RowsO S h base v []
  cap : capOf v = 0
theorem RowsE.ext {h' : Heap} (x : RowsE S h base v) (y : Ext h h') : RowsE S h' base v := ⟨x.own.ext y, x.cap⟩
theorem RowsE.low {base' : Nat} (x : RowsE S h base v) (hb : base' ≤ base) : RowsE S h base' v := ⟨x.own.low hb, x.cap⟩
end
end Go.Xp
