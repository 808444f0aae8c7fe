/- A header, said in the reference's type. -/
import Derived.Test.YtknimfbagbkjfaaGreatDoorBox
import Derived.Test.YtknimfbagbkjfaaGreatDoorProg
set_option linter.unusedSimpArgs false
set_option linter.unusedVariables false
set_option linter.unusedSectionVars false
namespace Go.Xp
open Go.Proofs

end Go.Xp
