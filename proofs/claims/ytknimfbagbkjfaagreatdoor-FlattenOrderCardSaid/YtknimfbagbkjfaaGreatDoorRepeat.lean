/- strings.Repeat, by the shelf's contract. -/
import Derived.Test.YtknimfbagbkjfaaGreatDoorShelf
import Derived.Test.YtknimfbagbkjfaaGreatDoorLib
import Derived.Below
set_option linter.unusedSimpArgs false
set_option linter.unusedVariables false
namespace Go.Xp
open Go.Proofs Go.RowKit

end Go.Xp
