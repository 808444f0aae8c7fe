/- A header, said in the reference's type. -/
import Derived.Test.YtknimfbagbkjfaaDoorBox
import Derived.Test.YtknimfbagbkjfaaDoorProg
set_option linter.unusedSimpArgs false
set_option linter.unusedVariables false
set_option linter.unusedSectionVars false
namespace Go.Xp
open Go.Proofs

end Go.Xp
