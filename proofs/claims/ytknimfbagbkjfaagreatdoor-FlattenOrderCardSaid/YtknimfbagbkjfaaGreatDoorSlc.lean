/- Library functions on slices of bytes: slices.Clone, slices.Equal. -/
import Derived.Test.YtknimfbagbkjfaaGreatDoorLib
import Derived.Test.YtknimfbagbkjfaaGreatDoorArr
import Derived.Test.YtknimfbagbkjfaaGreatDoorCstr
import Derived.Test.YtknimfbagbkjfaaGreatDoorProg
import Derived.KernelRfl
set_option linter.unusedSimpArgs false
set_option linter.unusedVariables false
namespace Go.Xp
open Go.Proofs

set_option maxRecDepth 100000 in
theorem slices_CloneB (h : Heap) (v : Value) (b : List UInt8) (hb : Bytes h v b) (hl : b.length ≤ 140737488355328) : Cal Tryz.prog 31 #[v] h (fun v h' => ∃ s0, v = s0 ∧ OwnB h' h.size s0 (b) ∧ Ext h h') := by
 refine Cal_enter (args := [v]) Tryz.func31 rfl rfl rfl (fun σ => ?_)
 refine Wr ?_
 refine Av ?_
 refine L_nil (X_then (W_seq (W_seq (W_region ?_))))
 refine Mv ?_
 refine Ly (Y_slnil Tryz.underlying33 rfl hb) ?_
 refine Nx ?_
 refine W_sub _ (tk3 4 2 0) ?_
 refine W_split rfl (fun c => ?_) (fun c => ?_)
 ·refine Wr ?_
  refine Av ?_
  refine Nx ?_
  refine W_sub _ (tk2 2 0) ?_
  refine W_ret (X_then_ret ?_)
  refine X_ret1 rfl rfl ?_
  exact ⟨_, rfl, by rw [isNil_nil hb c]; exact OwnB.nil _ _, (Ext.refl _)⟩
 refine Ws ?_
 refine W_sub _ (tk2 2 0) ?_
 refine Wr ?_
 refine L_mks (M_litb (l := ([] : List UInt8)) (cells := []) (pv := []) (E := 5) (evp (is := []) (os := []) (vs := []) rfl rfl) rfl rfl (fun _ => by kernel_rfl)) rfl rfl rfl ?_
 rintro v1 h1 ⟨ho2, hx3⟩
 refine Mv ?_
 refine L_mks (M_appb Tryz.underlying33 (by unfold elemRow; kernel_rfl) rfl rfl ho2 (hb.ext hx3) hx3.size (by first | omega | (simp; omega))) rfl rfl rfl ?_
 rintro v4 h2 ha5
 refine Av ?_
 refine Nx ?_
 refine W_sub _ (tk1 2) ?_
 refine W_ret ?_
 refine X_ret1 rfl rfl ?_
 exact ⟨_, rfl, (by simpa using (ha5.own).low (Nat.le_refl _)), (hx3.then' ha5.only ha5.ge (Nat.le_refl _))⟩

theorem byt_ext {a b : List UInt8} (hl : a.length = b.length) (h : ∀ k, k < a.length → byt a k = byt b k) : a = b := by
  apply List.ext_getElem hl
  intro i h1 h2
  have := h i h1
  rw [byt_eq h1, byt_eq h2] at this
  exact UInt8.toNat_inj.1 (by omega)

set_option maxRecDepth 100000 in
theorem slices_EqualB (h : Heap) (v : Value) (a : List UInt8) (ha : Bytes h v a) (u : Value) (b : List UInt8) (hb : Bytes h u b) (hl0 : a.length ≤ 140737488355328) : Cal Tryz.prog 28 #[v, u] h (fun v h' => v = .bool (decide (a = b)) ∧ h' = h) := by
 refine Cal_enter (args := [v, u]) Tryz.func28 rfl rfl rfl (fun σ => ?_)
 refine Wr ?_
 refine Av ?_
 refine L_nil (X_then (W_seq (W_seq (W_region ?_))))
 refine Mv ?_
 refine Ly (Y_len Tryz.underlying33 rfl ha) ?_
 refine Mv ?_
 refine Ly (Y_len Tryz.underlying33 rfl hb) ?_
 refine Ly (Y_neq rfl rfl) ?_
 refine Nx ?_
 refine W_sub _ (tk4 10 4 0 1) ?_
 refine W_splitd rfl (fun c => ?_) (fun c => ?_)
 ·refine Wr ?_
  refine Av ?_
  refine Nx ?_
  refine W_sub _ (tk3 4 0 1) ?_
  refine W_ret (X_then_ret ?_)
  refine X_ret1 rfl rfl ?_
  exact ⟨by rw [decide_eq_false (fun e => c (by rw [e]))], rfl⟩
 refine Ws ?_
 refine W_sub _ (tk3 4 0 1) ?_
 have hlen : a.length = b.length := by omega
 refine W_seq (W_seq (W_region ?_))
 refine Mv ?_
 refine Ly (Y_len Tryz.underlying33 rfl ha) ?_
 refine Mv ?_
 refine Nx ?_
 refine W_sub _ (tk5 13 12 4 0 1) ?_
 refine W_block ?_
 refine W_loop (S := Nat) (fun i => [(12, .int .i64 ((a.length : Int))), (0, v), (1, u), (13, .int .i64 ((i : Int)))]) (fun i h' => i ≤ a.length ∧ (∀ k, k < i → byt a k = byt b k) ∧ h' = h) (fun i => a.length - i) 0 (tk4 12 0 1 13) ?_ ?_
 ·exact ⟨Nat.zero_le _, (fun _ hk => absurd hk (Nat.not_lt_zero _)), rfl⟩
 rintro i h ⟨hi, hip, rfl⟩
 show W _ _ _ _ _ [(12, .int .i64 ((a.length : Int))), (0, v), (1, u), (13, .int .i64 ((i : Int)))] _
 refine Wr ?_
 refine Ly (Y_lss rfl rfl) ?_
 refine L_nil (X_then (W_seq ?_))
 refine W_splitd rfl (fun hl => ?_) (fun hl => ?_)
 ·refine Ws ?_
  refine W_sub _ (tk4 12 0 1 13) ?_
  refine W_seq (W_block (W_seq (W_region ?_)))
  refine Mv ?_
  refine Av ?_
  refine Nx ?_
  refine W_sub _ (tk5 5 12 0 1 13) ?_
  refine W_seq ?_
  refine W_quiet (fun h' => h' = h) (by kernel_rfl) (by kernel_rfl) rfl ?_
  refine LQ_yld (fun h_ hI_ => by subst hI_; exact Y_move rfl) rfl rfl rfl ?_
  refine LQ_yld (fun h_ hI_ => by subst hI_; exact Y_move rfl) rfl rfl rfl ?_
  refine LQ_yld (fun h_ hI_ => by subst hI_; exact Y_idx Tryz.underlying33 (show _ = some 1 by kernel_rfl) rfl rfl ha (by omega) (by omega)) rfl rfl rfl ?_
  refine LQ_yld (fun h_ hI_ => by subst hI_; exact Y_ldbyte Tryz.underlying5 rfl rfl ha (by omega) (by omega)) rfl rfl rfl ?_
  refine LQ_yld (fun h_ hI_ => by subst hI_; exact Y_move rfl) rfl rfl rfl ?_
  refine LQ_yld (fun h_ hI_ => by subst hI_; exact Y_move rfl) rfl rfl rfl ?_
  refine LQ_yld (fun h_ hI_ => by subst hI_; exact Y_idx Tryz.underlying33 (show _ = some 1 by kernel_rfl) rfl rfl hb (by omega) (by omega)) rfl rfl rfl ?_
  refine LQ_yld (fun h_ hI_ => by subst hI_; exact Y_ldbyte Tryz.underlying5 rfl rfl hb (by omega) (by omega)) rfl rfl rfl ?_
  refine LQ_yld (fun h_ hI_ => by subst hI_; exact Y_neq rfl rfl) rfl rfl rfl ?_
  refine LQ_nil ?_
  rintro h rfl
  refine X_then ?_
  refine W_sub _ (tk5 24 12 0 1 13) ?_
  refine W_splitd rfl (fun hne => ?_) (fun hne => ?_)
  ·refine Wr ?_
   refine Av ?_
   refine Nx ?_
   refine W_sub _ (tk5 4 12 0 1 13) ?_
   refine W_ret (X_block_ret (X_then_ret (X_then_ret (X_block_ret (X_then_ret ?_)))))
   refine X_ret1 rfl rfl ?_
   exact ⟨by rw [decide_eq_false (fun e => hne (by rw [e]))], rfl⟩
  refine W_skip (X_block (X_then ?_))
  refine W_sub _ (tk4 12 0 1 13) ?_
  refine W_region ?_
  refine Ly (Y_add rfl rfl (by omega) (by omega)) ?_
  refine Mv ?_
  refine L_nil ?_
  refine X_loop (i + 1) (tk4 12 0 1 13) ?_ ?_
  ·exact ⟨by omega, (step_ne hip (by simpa using hne)), rfl⟩
  (try dsimp only)
  omega
 refine W_exit ?_
 refine X_then_exit (X_then_exit ?_)
 refine X_block_hit ?_
 refine X_then ?_
 refine W_sub _ sN ?_
 refine Wr ?_
 refine Av ?_
 refine L_nil (X_then (W_ret ?_))
 refine X_ret1 rfl rfl ?_
 exact ⟨by rw [decide_eq_true (byt_ext hlen (fun k hk => hip k (by omega)))], rfl⟩

end Go.Xp
