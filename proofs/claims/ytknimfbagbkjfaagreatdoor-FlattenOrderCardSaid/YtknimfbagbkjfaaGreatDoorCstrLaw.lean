/- Layer 2 (cstring): the laws' own text. -/
import Derived.Test.YtknimfbagbkjfaaGreatDoorCstr
import Derived.Test.YtknimfbagbkjfaaGreatDoorRepeat
set_option linter.unusedSimpArgs false
set_option linter.unusedVariables false
namespace Go.Xp
open Go.Proofs

end Go.Xp
