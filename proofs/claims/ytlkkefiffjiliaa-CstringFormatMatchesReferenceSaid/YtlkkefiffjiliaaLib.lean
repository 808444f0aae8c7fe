/- The functions of Go's library that look for one byte: strings and bytes. -/
import Derived.Test.YtlkkefiffjiliaaOwn
import Derived.Test.YtlkkefiffjiliaaProg
import Derived.KernelRfl
set_option linter.unusedSimpArgs false
set_option linter.unusedVariables false
namespace Go.Xp
open Go.Proofs

theorem byte_back (c : UInt8) : ((c.toNat : Int).toNat).toUInt8 = c := by simp
theorem ext_IndexByteString {h : Heap} (l : List UInt8) (c : Int) (w : World) (_hw : w.heap = h) : (callFunc 77 #[str l, .int .u8 c]).run Try.prog w = .ok (.value (.int .i64 (Lib.indexByte l c.toNat.toUInt8))) w := by
  rw [run_callFunc_extern Try.func77 (by kernel_rfl) (by kernel_rfl) (by kernel_rfl) (e := Extern.BytealgIndexByte.indexByte) (by kernel_rfl), Lib.run_indexByteString]
  rfl

set_option maxRecDepth 100000 in
theorem lite_IndexByte (h : Heap) (l : List UInt8) (c : Int) : Cal Try.prog 64 #[str l, .int .u8 (c)] h (fun v h' => v = .int .i64 (Lib.indexByte l c.toNat.toUInt8) ∧ h' = h) := by
  refine Cal_enter (args := [str l, .int .u8 (c)]) Try.func64 rfl rfl rfl (fun σ => ?_)
  refine W_seq ?_
  refine W_region ?_
  refine L_yld (Y_assign rfl) rfl rfl rfl ?_
  refine L_nil ?_
  refine X_then ?_
  refine W_seq ?_
  refine W_region ?_
  refine L_yld (Y_move rfl) rfl rfl rfl ?_
  refine L_yld (Y_move rfl) rfl rfl rfl ?_
  refine L_yld (Y_ext rfl (fun w_ h_ => ext_IndexByteString l c w_ h_)) rfl rfl rfl ?_
  refine L_yld (Y_assign rfl) rfl rfl rfl ?_
  refine L_nil ?_
  refine X_then ?_
  refine W_sub _ (.cons (i := 4) rfl (.nil _)) ?_
  refine W_ret ?_
  refine X_ret1 rfl rfl ?_
  exact ⟨rfl, rfl⟩

set_option maxRecDepth 100000 in
theorem strings_IndexByte (h : Heap) (l : List UInt8) (c : Int) : Cal Try.prog 50 #[str l, .int .u8 (c)] h (fun v h' => v = .int .i64 (Lib.indexByte l c.toNat.toUInt8) ∧ h' = h) := by
  refine Cal_enter (args := [str l, .int .u8 (c)]) Try.func50 rfl rfl rfl (fun σ => ?_)
  refine W_seq ?_
  refine W_region ?_
  refine L_yld (Y_assign rfl) rfl rfl rfl ?_
  refine L_nil ?_
  refine X_then ?_
  refine W_seq ?_
  refine W_region ?_
  refine L_yld (Y_move rfl) rfl rfl rfl ?_
  refine L_yld (Y_move rfl) rfl rfl rfl ?_
  refine L_call (E_call (by kernel_rfl) rfl) (lite_IndexByte _ l c) rfl rfl rfl ?_
  rintro _ h ⟨rfl, rfl⟩
  refine L_yld (Y_assign rfl) rfl rfl rfl ?_
  refine L_nil ?_
  refine X_then ?_
  refine W_sub _ (.cons (i := 4) rfl (.nil _)) ?_
  refine W_ret ?_
  refine X_ret1 rfl rfl ?_
  exact ⟨rfl, rfl⟩

end Go.Xp
