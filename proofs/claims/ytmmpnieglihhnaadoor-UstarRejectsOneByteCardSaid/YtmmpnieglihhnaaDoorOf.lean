/- A header, said in the reference's type. -/
import Derived.Test.YtmmpnieglihhnaaDoorBox
import Derived.Test.YtmmpnieglihhnaaDoorDraw
import Derived.Test.YtmmpnieglihhnaaDoorProg
set_option linter.unusedSimpArgs false
set_option linter.unusedVariables false
set_option linter.unusedSectionVars false
namespace Go.Xp
open Go.Proofs

set_option maxRecDepth 100000 in
theorem law07_Of (h : Heap) (t : Int) (name : List UInt8) (pre : List UInt8) (link : List UInt8) (mode : Int) (size : Int) : Cal Tryd.prog 15 #[.agg #[.int .u8 (t), str name, str pre, str link, .int .i64 (mode), .int .i64 (size)]] h (fun v h' => v = .agg #[.int .u8 (t), str name, str pre, str link, .int .i64 (mode), .int .i64 (size)] ∧ Ext h h') := by
  refine Cal_enter (args := [.agg #[.int .u8 (t), str name, str pre, str link, .int .i64 (mode), .int .i64 (size)]]) Tryd.func15 rfl rfl rfl (fun σ => ?_)
  refine W_seq ?_
  refine W_region ?_
  refine L_mks (M_box rfl) rfl rfl rfl ?_
  rintro _ h1 ⟨rfl, hn1⟩
  have hk2 : Blk h1 h.size [.int .u8 (t), str name, str pre, str link, .int .i64 (mode), .int .i64 (size)] := hn1.blk
  refine L_mks (M_alloc (u := .agg #[.int .u8 0, str [], str [], str [], .int .i64 0, .int .i64 0]) (by kernel_rfl)) rfl rfl rfl ?_
  rintro _ h2 ⟨rfl, hn3⟩
  have hk4 : Blk h2 h1.size [.int .u8 0, str [], str [], str [], .int .i64 0, .int .i64 0] := hn3.blk
  refine L_nil ?_
  refine X_then ?_
  refine W_sub _ (.cons (i := 2) rfl (.cons (i := 1) rfl (.nil _))) ?_
  refine W_seq ?_
  refine W_region ?_
  refine L_yld (Y_fieldAddr (off := 0) (by kernel_rfl) rfl rfl) rfl rfl rfl ?_
  refine L_yld (Y_ldblk Tryd.underlying5 rfl rfl (hk2.ext hn3.ext) rfl) rfl rfl rfl ?_
  refine L_yld (Y_fieldAddr (off := 1) (by kernel_rfl) rfl rfl) rfl rfl rfl ?_
  refine L_yld (Y_ldblk Tryd.underlying9 rfl rfl (hk2.ext hn3.ext) rfl) rfl rfl rfl ?_
  refine L_yld (Y_fieldAddr (off := 2) (by kernel_rfl) rfl rfl) rfl rfl rfl ?_
  refine L_yld (Y_ldblk Tryd.underlying9 rfl rfl (hk2.ext hn3.ext) rfl) rfl rfl rfl ?_
  refine L_yld (Y_fieldAddr (off := 3) (by kernel_rfl) rfl rfl) rfl rfl rfl ?_
  refine L_yld (Y_ldblk Tryd.underlying9 rfl rfl (hk2.ext hn3.ext) rfl) rfl rfl rfl ?_
  refine L_yld (Y_fieldAddr (off := 4) (by kernel_rfl) rfl rfl) rfl rfl rfl ?_
  refine L_yld (Y_ldblk Tryd.underlying3 rfl rfl (hk2.ext hn3.ext) rfl) rfl rfl rfl ?_
  refine L_yld (Y_fieldAddr (off := 5) (by kernel_rfl) rfl rfl) rfl rfl rfl ?_
  refine L_yld (Y_ldblk Tryd.underlying2 rfl rfl (hk2.ext hn3.ext) rfl) rfl rfl rfl ?_
  refine L_yld (Y_build (v := .agg #[.int .u8 (t), str name, str pre, str link, .int .i64 (mode), .int .i64 (size)]) (pv := [(0, .int .u8 (t)), (1, str name), (2, str pre), (3, str link), (4, .int .i64 (mode)), (5, .int .i64 (size))]) (evp (is := [0, 1, 2, 3, 4, 5]) (os := [.tmp 4, .tmp 6, .tmp 8, .tmp 10, .tmp 12, .tmp 14]) (vs := [.int .u8 (t), str name, str pre, str link, .int .i64 (mode), .int .i64 (size)]) rfl rfl) (fun _ => by kernel_rfl)) rfl rfl rfl ?_
  refine L_dos (D_store (us := [.int .u8 (t), str name, str pre, str link, .int .i64 (mode), .int .i64 (size)]) (show _ = some 6 by kernel_rfl) rfl rfl rfl (by simp [Value.oneCell']) hk4 (by simp)) rfl rfl ?_
  rintro h3 hp5
  have hk6 : Blk h3 h1.size [.int .u8 (t), str name, str pre, str link, .int .i64 (mode), .int .i64 (size)] := hp5.blk
  refine L_nil ?_
  refine X_then ?_
  refine W_sub _ (.cons (i := 2) rfl (.nil _)) ?_
  refine W_ret ?_
  refine X_retv1 rfl (RV.agg rfl Tryd.underlying39 rfl (show _ = some 6 by kernel_rfl) hk6) ?_
  exact ⟨rfl, ((hn1.ext.trans hn3.ext).then' hp5.only (by simp) hn1.ext.size)⟩
end Go.Xp
