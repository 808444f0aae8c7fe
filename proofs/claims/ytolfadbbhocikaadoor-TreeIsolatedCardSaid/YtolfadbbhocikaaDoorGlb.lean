/- What the program's package variables hold when the call begins. -/
import Derived.Test.YtolfadbbhocikaaDoorArr
namespace Go.Xp
/-- What the package variables hold. -/
structure GlbK (h : Heap) : Prop where
  g0 : Cls h 1 [str [108, 105, 110, 107, 112, 97, 116, 104], str [112, 97, 116, 104], str [115, 105, 122, 101]]
theorem GlbK.ext {h h' : Heap} (x : GlbK h) (y : Ext h h') : GlbK h' := ⟨x.g0.ext y⟩
end Go.Xp
