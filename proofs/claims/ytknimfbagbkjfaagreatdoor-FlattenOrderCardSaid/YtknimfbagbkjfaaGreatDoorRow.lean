/- From a contract of this claim's form to what a row's frame asks of its walk; the arguments' memory as the walks tell it. -/
import Derived.Test.YtknimfbagbkjfaaGreatDoorOwn
import Derived.Below
set_option linter.unusedSimpArgs false
set_option linter.unusedVariables false
namespace Go.Xp
open Go.RowKit

theorem law_of_cal {P : Program} {f : FuncId} {args : Array Value} {w : World} (c : Cal P f args w.heap (fun v h' => v = .bool true ∧ Ext w.heap h')) :
    Calls P f args w fun e w' => e = .returned (.bool true) ∧ Below w.heap.size w w' :=
  (c w rfl).mono fun e w' ⟨v, he, hs, hv, hx⟩ => by
    subst hv
    unfold std at hs
    simp only [Std.mk.injEq] at hs
    exact ⟨he, hs.1, hs.2.1, hs.2.2, hx.size, fun k hk => hx.same k hk (by simp)⟩

end Go.Xp
