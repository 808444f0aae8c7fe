/- What the program's package variables hold when the call begins. -/
import Derived.Test.YtkcgabodpcfohaaDoorArr
namespace Go.Xp
/-- What the package variables hold. -/
structure Glb (h : Heap) : Prop where
  g0 : Cls h 2 [.int .i64 0, .int .i64 100]
  g1 : Cls h 3 [.int .i64 157, .int .i64 100]
  g2 : Cls h 4 [.int .i64 345, .int .i64 155]
theorem Glb.ext {h h' : Heap} (x : Glb h) (y : Ext h h') : Glb h' := ⟨x.g0.ext y, x.g1.ext y, x.g2.ext y⟩
/-- What the package variables hold. -/
structure GlbK (h : Heap) : Prop where
  g0 : Cls h 0 [str [108, 105, 110, 107, 112, 97, 116, 104], str [112, 97, 116, 104], str [115, 105, 122, 101]]
theorem GlbK.ext {h h' : Heap} (x : GlbK h) (y : Ext h h') : GlbK h' := ⟨x.g0.ext y⟩
/-- What the package variables hold. -/
structure GlbT (h : Heap) : Prop where
  g0 : Cls h 1 [.int .u8 53, .int .u8 48, .int .u8 50, .int .u8 49]
theorem GlbT.ext {h h' : Heap} (x : GlbT h) (y : Ext h h') : GlbT h' := ⟨x.g0.ext y⟩
end Go.Xp
