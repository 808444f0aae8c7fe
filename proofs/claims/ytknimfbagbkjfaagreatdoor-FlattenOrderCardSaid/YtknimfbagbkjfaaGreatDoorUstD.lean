/- Layer 7 (ustar): what Check answers. -/
import Derived.Test.YtknimfbagbkjfaaGreatDoorCstr
set_option linter.unusedSimpArgs false
set_option linter.unusedVariables false
set_option linter.unusedSectionVars false
namespace Go.Xp
open Go.Proofs

def uknown (c : Int) : Bool := decide (c = 48 ∨ c = 49 ∨ c = 50 ∨ c = 53 ∨ c = 120)
def ucheck (t : Int) (name pre link : List UInt8) (mode size : Int) : Int := if uknown t = false then 8 else if ¬ cerr name 100 = 0 then cerr name 100 else if ¬ cerr link 100 = 0 then cerr link 100 else if ¬ cerr pre 155 = 0 then cerr pre 155 else if mode < 0 ∨ 4095 < mode then 16 else if size < 0 ∨ 8589934591 < size then 3 else 0
end Go.Xp
