/- A header, said in the reference's type. -/
import Derived.Test.YtmmpnieglihhnaaGreatDoorBox
import Derived.Test.YtmmpnieglihhnaaGreatDoorDraw
import Derived.Test.YtmmpnieglihhnaaGreatDoorProg
set_option linter.unusedSimpArgs false
set_option linter.unusedVariables false
set_option linter.unusedSectionVars false
namespace Go.Xp
open Go.Proofs

end Go.Xp
