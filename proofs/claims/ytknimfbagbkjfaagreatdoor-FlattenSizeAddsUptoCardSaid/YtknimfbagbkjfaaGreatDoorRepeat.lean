/- strings.Repeat, by the shelf's contract. -/
import Derived.Test.YtknimfbagbkjfaaGreatDoorShelf
import Derived.Test.YtknimfbagbkjfaaGreatDoorLib
import Derived.Below
set_option linter.unusedSimpArgs false
set_option linter.unusedVariables false
namespace Go.Xp
open Go.Proofs Go.RowKit

theorem repeatL_one (c : UInt8) (k : Nat) : Lib.repeatL [c] k = List.replicate k c := by
  induction k with
  | zero => rfl
  | succ k ih => simp [Lib.repeatL, ih, List.replicate_succ]
end Go.Xp
