/- A header, said in the reference's type. -/
import Derived.Test.YtolfadbbhocikaaDoorBox
import Derived.Test.YtolfadbbhocikaaDoorProg
set_option linter.unusedSimpArgs false
set_option linter.unusedVariables false
set_option linter.unusedSectionVars false
namespace Go.Xp
open Go.Proofs

end Go.Xp
