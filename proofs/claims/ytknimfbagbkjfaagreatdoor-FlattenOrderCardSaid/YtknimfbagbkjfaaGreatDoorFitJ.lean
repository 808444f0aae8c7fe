/- Layer 10 (fit): what a plan tells of its entry. -/
import Derived.Test.YtknimfbagbkjfaaGreatDoorFitR
import Derived.Test.YtknimfbagbkjfaaGreatDoorPathLaw
import Derived.Test.YtknimfbagbkjfaaGreatDoorDecP
set_option linter.unusedSimpArgs false
set_option linter.unusedVariables false
set_option linter.unusedSectionVars false
namespace Go.Xp
open Go.Proofs

end Go.Xp
