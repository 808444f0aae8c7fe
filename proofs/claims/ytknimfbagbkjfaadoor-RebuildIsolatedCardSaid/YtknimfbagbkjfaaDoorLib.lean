/- The functions of Go's library that look for one byte: strings and bytes. -/
import Derived.Test.YtknimfbagbkjfaaDoorGlb
import Derived.Test.YtknimfbagbkjfaaDoorProg
import Derived.KernelRfl
set_option linter.unusedSimpArgs false
set_option linter.unusedVariables false
namespace Go.Xp
open Go.Proofs

theorem ext_IndexByteString {h : Heap} (l : List UInt8) (c : Int) (w : World) (_hw : w.heap = h) : (callFunc 77 #[str l, .int .u8 c]).run Tryd.prog w = .ok (.value (.int .i64 (Lib.indexByte l c.toNat.toUInt8))) w := by
  rw [run_callFunc_extern Tryd.func77 (by kernel_rfl) (by kernel_rfl) (by kernel_rfl) (e := Extern.BytealgIndexByte.indexByte) (by kernel_rfl), Lib.run_indexByteString]
  rfl
set_option maxRecDepth 100000 in
theorem lite_IndexByte (h : Heap) (l : List UInt8) (c : Int) : Cal Tryd.prog 70 #[str l, .int .u8 (c)] h (fun v h' => v = .int .i64 (Lib.indexByte l c.toNat.toUInt8) ∧ h' = h) := by
 refine Cal_enter (args := [str l, .int .u8 (c)]) Tryd.func70 rfl rfl rfl (fun σ => ?_)
 refine Wr ?_
 refine Av ?_
 refine L_nil (X_then (W_seq (W_region ?_)))
 refine Mv ?_
 refine Mv ?_
 refine Ly (Y_ext rfl (fun w_ h_ => ext_IndexByteString l c w_ h_)) ?_
 refine Av ?_
 refine Nx ?_
 refine W_sub _ (tk1 4) ?_
 refine W_ret ?_
 refine X_ret1 rfl rfl ?_
 exact ⟨rfl, rfl⟩

set_option maxRecDepth 100000 in
theorem strings_IndexByte (h : Heap) (l : List UInt8) (c : Int) : Cal Tryd.prog 61 #[str l, .int .u8 (c)] h (fun v h' => v = .int .i64 (Lib.indexByte l c.toNat.toUInt8) ∧ h' = h) := by
 refine Cal_enter (args := [str l, .int .u8 (c)]) Tryd.func61 rfl rfl rfl (fun σ => ?_)
 refine Wr ?_
 refine Av ?_
 refine L_nil (X_then (W_seq (W_region ?_)))
 refine Mv ?_
 refine Mv ?_
 refine L_call (E_call (by kernel_rfl) rfl) (lite_IndexByte _ l c) rfl rfl rfl ?_
 rintro _ h ⟨rfl, rfl⟩
 refine Av ?_
 refine Nx ?_
 refine W_sub _ (tk1 4) ?_
 refine W_ret ?_
 refine X_ret1 rfl rfl ?_
 exact ⟨rfl, rfl⟩

theorem byt_back (l : List UInt8) (k : Nat) : (byt l k).toNat.toUInt8 = l.getD k 0 := by simp [byt]
theorem indexByte_lt (l : List UInt8) (c : UInt8) : Lib.indexByte l c < l.length := by
  induction l with
  | nil => simp [Lib.indexByte]
  | cons a l ih =>
    simp only [Lib.indexByte, List.length_cons]
    split
    · omega
    · split <;> omega

/-! ### One byte looked for -/
set_option maxRecDepth 100000 in
theorem lite_Index (h : Heap) (l : List UInt8) (u : List UInt8) (hu : u.length = 1) : Cal Tryd.prog 81 #[str l, str u] h (fun v h' => v = .int .i64 (Lib.indexByte l (u.getD 0 0)) ∧ h' = h) := by
 refine Cal_enter (args := [str l, str u]) Tryd.func81 rfl rfl rfl (fun σ => ?_)
 refine Wr ?_
 refine Av ?_
 refine L_nil (X_then (W_seq (W_region ?_)))
 refine Mv ?_
 refine Ly (Y_slen Tryd.underlying9 rfl) ?_
 refine Av ?_
 refine Nx ?_
 refine W_sub _ (tk4 5 4 0 1) ?_
 refine W_seq (W_block (W_seq (W_region ?_)))
 refine Mv ?_
 refine Ly (Y_eql rfl rfl) ?_
 refine Mv ?_
 refine L_known (d := 19) false rfl (by exact decide_eq_false (by omega)) ?_
 refine Mv ?_
 refine Mv ?_
 refine Ly (Y_seql rfl rfl) ?_
 refine Ly (Y_pick_f rfl rfl) ?_
 refine Av ?_
 refine Nx ?_
 refine W_sub _ (tk5 16 5 4 0 1) ?_
 refine W_splitd rfl (fun g => ?_) (fun g => ?_)
 ·refine Wr ?_
  refine Av ?_
  refine Nx ?_
  refine W_sub _ (tk4 4 5 0 1) ?_
  refine W_ret (X_block_ret (X_then_ret ?_))
  refine X_ret1 rfl rfl ?_
  refine ⟨?_, rfl⟩
  subst g
  obtain ⟨c, rfl⟩ := List.length_eq_one_iff.1 hu
  simp [Lib.indexByte]
 refine Wr ?_
 refine Mv ?_
 refine Ly (Y_eql rfl rfl) ?_
 refine Av ?_
 refine Nx ?_
 refine W_sub _ (tk5 24 5 4 0 1) ?_
 refine W_known true rfl (by exact decide_eq_true (by omega)) ?_
 refine Wr ?_
 refine Mv ?_
 refine Mv ?_
 refine Ly (Y_sidx Tryd.underlying9 rfl rfl (by omega) (by omega)) ?_
 refine L_call (E_call (by kernel_rfl) rfl) (lite_IndexByte _ l (byt u 0)) rfl rfl rfl ?_
 rintro _ h ⟨rfl, rfl⟩
 refine Av ?_
 refine Nx ?_
 refine W_sub _ (tk4 4 5 0 1) ?_
 refine W_ret (X_block_ret (X_then_ret ?_))
 refine X_ret1 rfl rfl ?_
 exact ⟨by rw [byt_back], rfl⟩

/-- What Cut at one byte gives: the part ahead, the part behind, found. -/
def cutA (l : List UInt8) (c : UInt8) : List UInt8 := if 0 ≤ Lib.indexByte l c then l.take (Lib.indexByte l c).toNat else l
def cutB (l : List UInt8) (c : UInt8) : List UInt8 := if 0 ≤ Lib.indexByte l c then l.drop (Lib.indexByte l c + 1).toNat else []

set_option maxRecDepth 100000 in
theorem lite_Cut (h : Heap) (l : List UInt8) (u : List UInt8) (hu : u.length = 1) (hl : l.length ≤ 9223372036854775807) : Cal Tryd.prog 76 #[str l, str u] h (fun v h' => v = .tuple #[str (cutA l (u.getD 0 0)), str (cutB l (u.getD 0 0)), .bool (decide (0 ≤ Lib.indexByte l (u.getD 0 0)))] ∧ h' = h) := by
 have hi := indexByte_lt l (u.getD 0 0)
 refine Cal_enter (args := [str l, str u]) Tryd.func76 rfl rfl rfl (fun σ => ?_)
 refine Wr ?_
 refine Av ?_
 refine Av ?_
 refine Av ?_
 refine L_nil (X_then (W_seq (W_seq (W_region ?_))))
 refine Mv ?_
 refine Mv ?_
 refine L_call (E_call (by kernel_rfl) rfl) (lite_Index _ l u (by first | omega | rfl | (simp <;> omega))) rfl rfl rfl ?_
 rintro _ h ⟨rfl, rfl⟩
 refine Av ?_
 refine Nx ?_
 refine W_sub _ (tk6 7 6 5 4 0 1) ?_
 refine Wr ?_
 refine Mv ?_
 refine Ly (Y_geq rfl rfl) ?_
 refine Nx ?_
 refine W_sub _ (tk7 12 7 6 5 4 0 1) ?_
 refine W_splitd rfl (fun g => ?_) (fun g => ?_)
 ·refine W_seq ?_
  refine W_quiet (fun h' => h' = h) (by kernel_rfl) (by kernel_rfl) rfl ?_
  refine LQ_yld (fun h_ hI_ => by subst hI_; exact Y_move rfl) rfl rfl rfl ?_
  refine LQ_yld (fun h_ hI_ => by subst hI_; exact Y_move rfl) rfl rfl rfl ?_
  refine LQ_yld (fun h_ hI_ => by subst hI_; exact Y_sslice_h Tryd.underlying9 rfl rfl (by omega) (by omega)) rfl rfl rfl ?_
  refine LQ_yld (fun h_ hI_ => by subst hI_; exact Y_move rfl) rfl rfl rfl ?_
  refine LQ_yld (fun h_ hI_ => by subst hI_; exact Y_move rfl) rfl rfl rfl ?_
  refine LQ_yld (fun h_ hI_ => by subst hI_; exact Y_move rfl) rfl rfl rfl ?_
  refine LQ_yld (fun h_ hI_ => by subst hI_; exact Y_slen Tryd.underlying9 rfl) rfl rfl rfl ?_
  refine LQ_yld (fun h_ hI_ => by subst hI_; exact Y_add rfl rfl (by omega) (by omega)) rfl rfl rfl ?_
  refine LQ_yld (fun h_ hI_ => by subst hI_; exact Y_sslice_l Tryd.underlying9 rfl rfl (by omega) (by omega)) rfl rfl rfl ?_
  refine LQ_yld (fun h_ hI_ => by subst hI_; exact Y_assign rfl) rfl rfl rfl ?_
  refine LQ_yld (fun h_ hI_ => by subst hI_; exact Y_assign rfl) rfl rfl rfl ?_
  refine LQ_yld (fun h_ hI_ => by subst hI_; exact Y_assign rfl) rfl rfl rfl ?_
  refine LQ_nil ?_
  rintro h rfl
  refine X_then ?_
  refine W_sub _ (tk4 6 5 4 0) ?_
  refine W_ret (X_then_ret ?_)
  refine X_ret3 rfl rfl rfl rfl ?_
  exact ⟨by simp only [cutA, cutB, if_pos g, decide_eq_true g, hu]; rfl, rfl⟩
 refine Ws ?_
 refine W_sub _ (tk4 6 5 4 0) ?_
 refine Wr ?_
 refine Mv ?_
 refine Av ?_
 refine Av ?_
 refine Av ?_
 refine Nx ?_
 refine W_sub _ (tk3 6 5 4) ?_
 refine W_ret ?_
 refine X_ret3 rfl rfl rfl rfl ?_
 exact ⟨by simp only [cutA, cutB, if_neg g, decide_eq_false g], rfl⟩

set_option maxRecDepth 100000 in
theorem strings_Cut (h : Heap) (l : List UInt8) (u : List UInt8) (hu : u.length = 1) (hl : l.length ≤ 9223372036854775807) : Cal Tryd.prog 69 #[str l, str u] h (fun v h' => v = .tuple #[str (cutA l (u.getD 0 0)), str (cutB l (u.getD 0 0)), .bool (decide (0 ≤ Lib.indexByte l (u.getD 0 0)))] ∧ h' = h) := by
 refine Cal_enter (args := [str l, str u]) Tryd.func69 rfl rfl rfl (fun σ => ?_)
 refine Wr ?_
 refine Av ?_
 refine Av ?_
 refine Av ?_
 refine L_nil (X_then (W_seq (W_region ?_)))
 refine Mv ?_
 refine Mv ?_
 refine L_call (E_call (by kernel_rfl) rfl) (lite_Cut _ l u (by first | omega | rfl | (simp <;> omega)) (by first | omega | rfl | (simp <;> omega))) rfl rfl rfl ?_
 rintro _ h ⟨rfl, rfl⟩
 refine Ly (Y_extract (v := str (cutA l (u.getD 0 0))) rfl rfl) ?_
 refine Ly (Y_extract (v := str (cutB l (u.getD 0 0))) rfl rfl) ?_
 refine Ly (Y_extract (v := .bool (decide (0 ≤ Lib.indexByte l (u.getD 0 0)))) rfl rfl) ?_
 refine Av ?_
 refine Av ?_
 refine Av ?_
 refine Nx ?_
 refine W_sub _ (tk3 6 5 4) ?_
 refine W_ret ?_
 refine X_ret3 rfl rfl rfl rfl ?_
 exact ⟨rfl, rfl⟩

end Go.Xp
