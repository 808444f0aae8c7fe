/- What the program's package variables hold when the call begins. -/
import Derived.Test.YtknimfbagbkjfaaGreatDoorArr
namespace Go.Xp
/-- What the package variables hold. -/
structure Glb (h : Heap) : Prop where
  g0 : Cls h 1 [.int .i64 0, .int .i64 100]
  g1 : Cls h 6 [.int .i64 100, .int .i64 8]
  g2 : Cls h 8 [.int .i64 108, .int .i64 8]
  g3 : Cls h 9 [.int .i64 116, .int .i64 8]
  g4 : Cls h 7 [.int .i64 124, .int .i64 12]
  g5 : Cls h 10 [.int .i64 136, .int .i64 12]
  g6 : Cls h 5 [.int .i64 156, .int .i64 1]
  g7 : Cls h 2 [.int .i64 157, .int .i64 100]
  g8 : Cls h 4 [.int .i64 257, .int .i64 8]
  g9 : Cls h 11 [.int .i64 329, .int .i64 8]
  g10 : Cls h 12 [.int .i64 337, .int .i64 8]
  g11 : Cls h 3 [.int .i64 345, .int .i64 155]
theorem Glb.ext {h h' : Heap} (x : Glb h) (y : Ext h h') : Glb h' := ⟨x.g0.ext y, x.g1.ext y, x.g2.ext y, x.g3.ext y, x.g4.ext y, x.g5.ext y, x.g6.ext y, x.g7.ext y, x.g8.ext y, x.g9.ext y, x.g10.ext y, x.g11.ext y⟩
/-- What the package variables hold. -/
structure GlbK (h : Heap) : Prop where
  g0 : Cls h 14 [str [108, 105, 110, 107, 112, 97, 116, 104], str [112, 97, 116, 104], str [115, 105, 122, 101]]
theorem GlbK.ext {h h' : Heap} (x : GlbK h) (y : Ext h h') : GlbK h' := ⟨x.g0.ext y⟩
/-- What the package variables hold. -/
structure GlbT (h : Heap) : Prop where
  g0 : Cls h 0 [.int .u8 53, .int .u8 48, .int .u8 50, .int .u8 49]
theorem GlbT.ext {h h' : Heap} (x : GlbT h) (y : Ext h h') : GlbT h' := ⟨x.g0.ext y⟩
end Go.Xp
