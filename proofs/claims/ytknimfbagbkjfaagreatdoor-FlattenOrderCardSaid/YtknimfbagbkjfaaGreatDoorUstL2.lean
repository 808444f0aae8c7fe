/- Layer 7: the laws UstarFields and UstarLimits. -/
import Derived.Test.YtknimfbagbkjfaaGreatDoorUstLaw

set_option linter.unusedSimpArgs false
set_option linter.unusedVariables false
namespace Go.Xp
open Go.Proofs

section
variable {t : Int} {name pre link : List UInt8} {mode size : Int}
end
end Go.Xp
