/- Library functions on slices of bytes: slices.Clone, slices.Equal. -/
import Derived.Test.YtkcgabodpcfohaaDoorLib
import Derived.Test.YtkcgabodpcfohaaDoorArr
import Derived.Test.YtkcgabodpcfohaaDoorCstr
import Derived.Test.YtkcgabodpcfohaaDoorProg
import Derived.KernelRfl
set_option linter.unusedSimpArgs false
set_option linter.unusedVariables false
namespace Go.Xp
open Go.Proofs


theorem byt_ext {a b : List UInt8} (hl : a.length = b.length) (h : ∀ k, k < a.length → byt a k = byt b k) : a = b := by
  apply List.ext_getElem hl
  intro i h1 h2
  have := h i h1
  rw [byt_eq h1, byt_eq h2] at this
  exact UInt8.toNat_inj.1 (by omega)


end Go.Xp
