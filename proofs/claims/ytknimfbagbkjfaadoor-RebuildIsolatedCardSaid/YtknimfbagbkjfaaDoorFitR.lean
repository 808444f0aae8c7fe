/- Layer 10 (fit): the reference, and the laws' helpers. -/
import Derived.Test.YtknimfbagbkjfaaDoorFit
import Derived.Test.YtknimfbagbkjfaaDoorGlb
set_option linter.unusedSimpArgs false
set_option linter.unusedVariables false
set_option linter.unusedSectionVars false
namespace Go.Xp
open Go.Proofs

set_option maxRecDepth 100000 in
theorem ref10_target (h : Heap) (k : Int) (p : List UInt8) (m : Int) (tg : List UInt8) (z : Int) (ht : tg.length ≤ 140737488355328) : Cal Tryd.prog 56 #[.agg #[.int .i64 (k), str p, .int .i64 (m), str tg, .int .i64 (z)]] h (fun v h' => v = .int .i64 (ftarget k tg) ∧ Ext h h') := by
 refine Cal_enter (args := [.agg #[.int .i64 (k), str p, .int .i64 (m), str tg, .int .i64 (z)]]) Tryd.func56 rfl rfl rfl (fun σ => ?_)
 refine Wr ?_
 refine L_mks (M_box rfl) rfl rfl rfl ?_
 rintro _ h1 ⟨rfl, hn1⟩
 have hk2 : Blk h1 h.size [.int .i64 (k), str p, .int .i64 (m), str tg, .int .i64 (z)] := hn1.blk
 refine Av ?_
 refine Nx ?_
 refine W_sub _ (tk2 2 1) ?_
 refine W_seq (W_seq (W_region ?_))
 refine Ly (Y_fieldAddr (off := 0) (by kernel_rfl) rfl rfl) ?_
 refine Ly (Y_ldblk Tryd.underlying3 rfl rfl hk2 rfl) ?_
 refine Nx ?_
 refine W_sub _ (tk3 5 2 1) ?_
 refine W_block (W_seq (W_region ?_))
 refine Ly (Y_eql rfl rfl) ?_
 refine Av ?_
 refine Nx ?_
 refine W_sub _ (tk4 9 5 2 1) ?_
 refine W_splitd rfl (fun a => ?_) (fun a => ?_)
 ·refine W_seq (W_seq (W_region ?_))
  refine Ly (Y_fieldAddr (off := 3) (by kernel_rfl) rfl rfl) ?_
  refine Ly (Y_ldblk Tryd.underlying9 rfl rfl hk2 rfl) ?_
  refine Ly (Y_slen Tryd.underlying9 rfl) ?_
  refine Ly (Y_gtr rfl rfl) ?_
  refine Nx ?_
  refine W_sub _ (tk3 14 2 1) ?_
  refine W_splitd rfl (fun g => ?_) (fun g => ?_)
  ·refine Wr ?_
   refine Av ?_
   refine Nx ?_
   refine W_sub _ (tk2 2 1) ?_
   refine W_ret (X_then_ret (X_block_ret (X_then_ret ?_)))
   refine X_ret1 rfl rfl ?_
   have w9 : ¬ k = 3 := by omega
   exact ⟨by unfold ftarget; rw [if_neg w9, if_pos a, rerr_path (by simp) (by simp), if_pos (by omega)], hn1.ext⟩
  refine Ws ?_
  refine W_sub _ (tk2 2 1) ?_
  refine W_seq (W_seq (W_region ?_))
  refine Ly (Y_fieldAddr (off := 3) (by kernel_rfl) rfl rfl) ?_
  refine Ly (Y_ldblk Tryd.underlying9 rfl rfl hk2 rfl) ?_
  refine Ly (Y_seql rfl rfl) ?_
  refine Nx ?_
  refine W_sub _ (tk3 17 2 1) ?_
  refine W_splitd rfl (fun n => ?_) (fun n => ?_)
  ·refine Wr ?_
   refine Av ?_
   refine Nx ?_
   refine W_sub _ (tk2 2 1) ?_
   refine W_ret (X_then_ret (X_block_ret (X_then_ret ?_)))
   refine X_ret1 rfl rfl ?_
   have w9 : ¬ k = 3 := by omega
   exact ⟨by unfold ftarget; rw [if_neg w9, if_pos a, rerr_path (by simp) (by simp), if_neg (by omega), if_pos (.inl n)], hn1.ext⟩
  refine Ws ?_
  refine W_sub _ (tk2 2 1) ?_
  refine Wr ?_
  refine Av ?_
  refine L_nil (X_then (W_block ?_))
  refine W_loop (S := Nat) (fun i => [(1, .pointer (some ⟨h.size, 0, none⟩)), (3, .int .i64 ((i : Int)))]) (fun i h' => i ≤ tg.length ∧ (∀ k, k < i → ¬ byt tg k = 0) ∧ Ext h1 h') (fun i => tg.length - i) 0 (tk2 1 3) ?_ ?_
  ·exact ⟨by omega, (fun k hk => absurd hk (Nat.not_lt_zero _)), Ext.refl _⟩
  rintro i h2 ⟨hi, hd, hx⟩
  show W _ _ _ _ _ [(1, .pointer (some ⟨h.size, 0, none⟩)), (3, .int .i64 ((i : Int)))] _
  refine W_seq (W_seq (W_region ?_))
  refine Mv ?_
  refine Ly (Y_fieldAddr (off := 3) (by kernel_rfl) rfl rfl) ?_
  refine Ly (Y_ldblk Tryd.underlying9 rfl rfl (hk2.ext hx) rfl) ?_
  refine Ly (Y_slen Tryd.underlying9 rfl) ?_
  refine Ly (Y_lss rfl rfl) ?_
  refine Nx ?_
  refine W_sub _ (tk3 22 1 3) ?_
  refine W_splitd rfl (fun hl => ?_) (fun hl => ?_)
  ·refine Ws ?_
   refine W_sub _ (tk2 1 3) ?_
   refine W_seq (W_block (W_seq (W_region ?_)))
   refine Ly (Y_fieldAddr (off := 3) (by kernel_rfl) rfl rfl) ?_
   refine Ly (Y_ldblk Tryd.underlying9 rfl rfl (hk2.ext hx) rfl) ?_
   refine Mv ?_
   refine Ly (Y_sidx Tryd.underlying9 rfl rfl (by omega) (by omega)) ?_
   refine Ly (Y_eql rfl rfl) ?_
   refine Nx ?_
   refine W_sub _ (tk3 29 1 3) ?_
   refine W_splitd rfl (fun y => ?_) (fun y => ?_)
   ·refine Wr ?_
    refine Av ?_
    refine Nx ?_
    refine W_sub _ (tk3 2 1 3) ?_
    refine W_ret (X_block_ret (X_then_ret (X_then_ret (X_block_ret (X_block_ret (X_then_ret ?_))))))
    refine X_ret1 rfl rfl ?_
    have w9 : ¬ k = 3 := by omega
    exact ⟨by unfold ftarget; rw [if_neg w9, if_pos a, rerr_path (by simp) (by simp), if_neg (by omega), if_pos (.inr (mem0_iff.2 ⟨i, by omega, by rw [Int.toNat_natCast] at y; exact y⟩))], (hn1.ext.trans hx)⟩
   refine W_skip (X_block (X_then ?_))
   refine W_sub _ (tk2 1 3) ?_
   refine W_region ?_
   refine Mv ?_
   refine Ly (Y_add rfl rfl (by omega) (by omega)) ?_
   refine Av ?_
   refine L_nil ?_
   refine X_loop (i + 1) (tk2 1 3) ?_ ?_
   ·exact ⟨by omega, step_ne hd (by rw [Int.toNat_natCast] at y; omega), hx⟩
   (try dsimp only)
   omega
  refine W_exit ?_
  refine X_then_exit (X_then_exit ?_)
  refine X_block_hit ?_
  refine X_block (X_then ?_)
  refine W_sub _ sN ?_
  refine Wr ?_
  refine Av ?_
  refine L_nil (X_then (W_ret ?_))
  refine X_ret1 rfl rfl ?_
  have w9 : ¬ k = 3 := by omega
  exact ⟨by unfold ftarget; rw [if_neg w9, if_pos a, rerr_path (by simp) (by simp), if_neg (by omega), if_neg (fun e => e.elim n (fun e => by obtain ⟨q, q1, q2⟩ := mem0_iff.1 e; exact hd q (by omega) q2))], (hn1.ext.trans hx)⟩
 refine Wr ?_
 refine Ly (Y_eql rfl rfl) ?_
 refine Av ?_
 refine Nx ?_
 refine W_sub _ (tk3 30 2 1) ?_
 refine W_splitd rfl (fun b => ?_) (fun b => ?_)
 ·refine Wr ?_
  refine Ly (Y_fieldAddr (off := 3) (by kernel_rfl) rfl rfl) ?_
  refine Ly (Y_ldblk Tryd.underlying9 rfl rfl hk2 rfl) ?_
  refine L_call (E_call (by kernel_rfl) rfl) (ref08_Check _ tg) rfl rfl rfl ?_
  rintro _ h1 ⟨rfl, rfl⟩
  refine Av ?_
  refine Nx ?_
  refine W_sub _ (tk1 2) ?_
  refine W_ret (X_block_ret (X_then_ret ?_))
  refine X_ret1 rfl rfl ?_
  exact ⟨by unfold ftarget; rw [if_pos b], hn1.ext⟩
 refine Wr ?_
 refine Ly (Y_fieldAddr (off := 3) (by kernel_rfl) rfl rfl) ?_
 refine Ly (Y_ldblk Tryd.underlying9 rfl rfl hk2 rfl) ?_
 refine Ly (Y_sneq rfl rfl) ?_
 refine Nx ?_
 refine W_sub _ (tk2 8 2) ?_
 refine W_splitd rfl (fun c => ?_) (fun c => ?_)
 ·refine Wr ?_
  refine Av ?_
  refine Nx ?_
  refine W_sub _ (tk1 2) ?_
  refine W_ret (X_block_ret (X_then_ret ?_))
  refine X_ret1 rfl rfl ?_
  exact ⟨by unfold ftarget; rw [if_neg b, if_neg a, if_pos c], hn1.ext⟩
 refine W_skip (X_block (X_then ?_))
 refine W_sub _ (tk1 2) ?_
 refine Wr ?_
 refine Av ?_
 refine L_nil (X_then (W_ret ?_))
 refine X_ret1 rfl rfl ?_
 exact ⟨by unfold ftarget; rw [if_neg b, if_neg a, if_neg c], hn1.ext⟩
set_option maxRecDepth 100000 in
theorem ref10_Check (h : Heap) (k : Int) (p : List UInt8) (m : Int) (tg : List UInt8) (z : Int) (hp : p.length ≤ 140737488355328) (ht : tg.length ≤ 140737488355328) : Cal Tryd.prog 37 #[.agg #[.int .i64 (k), str p, .int .i64 (m), str tg, .int .i64 (z)]] h (fun v h' => v = .int .i64 (fcheck k p m tg z) ∧ Ext h h') := by
 refine Cal_enter (args := [.agg #[.int .i64 (k), str p, .int .i64 (m), str tg, .int .i64 (z)]]) Tryd.func37 rfl rfl rfl (fun σ => ?_)
 refine Wr ?_
 refine L_mks (M_box rfl) rfl rfl rfl ?_
 rintro _ h1 ⟨rfl, hn1⟩
 have hk2 : Blk h1 h.size [.int .i64 (k), str p, .int .i64 (m), str tg, .int .i64 (z)] := hn1.blk
 refine Av ?_
 refine Nx ?_
 refine W_sub _ (tk2 2 1) ?_
 refine W_seq ?_
 refine W_cut (S := Unit) (fun _ => [(11, .bool (decide ((k < 0) ∨ (3 < k)))), (2, .int .i64 0), (1, .pointer (some ⟨h.size, 0, none⟩))]) (fun _ h' => h' = h1) ?_ ?_
 ·refine W_region ?_
  refine Ly (Y_fieldAddr (off := 0) (by kernel_rfl) rfl rfl) ?_
  refine Ly (Y_ldblk Tryd.underlying3 rfl rfl hk2 rfl) ?_
  refine Ly (Y_lss rfl rfl) ?_
  refine Mv ?_
  refine L_splitd (d := 7) rfl (fun c3 => ?_) (fun c3 => ?_)
  ·refine Skp ?_
   refine Skp ?_
   refine Skp ?_
   refine Ly (Y_pick_t rfl rfl) ?_
   refine L_nil ?_
   exact X_cut () (sk1 11 (lkb rfl (by first | (simp only [eq_true c3, SB]; done) | (simp only [eq_true c3, SB]; rfl))) (sk1 2 rfl (tk1 1))) rfl
  refine Ly (Y_fieldAddr (off := 0) (by kernel_rfl) rfl rfl) ?_
  refine Ly (Y_ldblk Tryd.underlying3 rfl rfl hk2 rfl) ?_
  refine Ly (Y_gtr rfl rfl) ?_
  refine Ly (Y_pick_f rfl rfl) ?_
  refine L_nil ?_
  exact X_cut () (sk1 11 (lkb rfl (by first | (simp only [eq_false c3, SB]; done) | (simp only [eq_false c3, SB]; rfl))) (sk1 2 rfl (tk1 1))) rfl
 rintro _ h1 rfl
 show W _ _ _ _ _ [(11, .bool (decide ((k < 0) ∨ (3 < k)))), (2, .int .i64 0), (1, .pointer (some ⟨h.size, 0, none⟩))] _
 refine W_splitd rfl (fun a => ?_) (fun a => ?_)
 ·refine Wr ?_
  refine Av ?_
  refine Nx ?_
  refine W_sub _ (tk2 2 1) ?_
  refine W_ret (X_then_ret ?_)
  refine X_ret1 rfl rfl ?_
  exact ⟨by unfold fcheck; rw [if_pos (by omega)], hn1.ext⟩
 refine Ws ?_
 refine W_sub _ (tk2 2 1) ?_
 refine Wr ?_
 refine Ly (Y_fieldAddr (off := 1) (by kernel_rfl) rfl rfl) ?_
 refine Ly (Y_ldblk Tryd.underlying9 rfl rfl hk2 rfl) ?_
 refine L_call (E_call (by kernel_rfl) rfl) (ref08_Check _ p) rfl rfl rfl ?_
 rintro _ h1 ⟨rfl, rfl⟩
 refine Av ?_
 refine Nx ?_
 refine W_sub _ (tk3 3 2 1) ?_
 refine W_seq (W_seq (W_region ?_))
 refine Mv ?_
 refine Ly (Y_neq rfl rfl) ?_
 refine Nx ?_
 refine W_sub _ (tk4 16 3 2 1) ?_
 refine W_splitd rfl (fun b => ?_) (fun b => ?_)
 ·refine Wr ?_
  refine Mv ?_
  refine Av ?_
  refine Nx ?_
  refine W_sub _ (tk3 2 3 1) ?_
  refine W_ret (X_then_ret ?_)
  refine X_ret1 rfl rfl ?_
  exact ⟨by unfold fcheck; rw [if_neg (by omega), if_pos b], hn1.ext⟩
 refine Ws ?_
 refine W_sub _ (tk3 3 2 1) ?_
 refine W_seq ?_
 refine W_cut (S := Unit) (fun _ => [(35, .bool (decide (((m < 0) ∨ (4095 < m)) ∨ ((k = 2) ∧ (¬ m = 0))))), (3, .int .i64 (pcheck p)), (2, .int .i64 0), (1, .pointer (some ⟨h.size, 0, none⟩))]) (fun _ h' => h' = h1) ?_ ?_
 ·refine W_region ?_
  refine Ly (Y_fieldAddr (off := 2) (by kernel_rfl) rfl rfl) ?_
  refine Ly (Y_ldblk Tryd.underlying3 rfl rfl hk2 rfl) ?_
  refine Ly (Y_lss rfl rfl) ?_
  refine Mv ?_
  refine L_splitd (d := 21) rfl (fun c4 => ?_) (fun c4 => ?_)
  ·refine Skp ?_
   refine Skp ?_
   refine Skp ?_
   refine Ly (Y_pick_t rfl rfl) ?_
   refine Mv ?_
   refine Skp ?_
   refine Skp ?_
   refine Skp ?_
   refine Skp ?_
   refine Skp ?_
   refine Skp ?_
   refine Skp ?_
   refine Skp ?_
   refine Ly (Y_pick_t rfl rfl) ?_
   refine L_nil ?_
   exact X_cut () (sk1 35 (lkb rfl (by first | (simp only [eq_true c4, SB]; done) | (simp only [eq_true c4, SB]; rfl))) (sk1 3 rfl (sk1 2 rfl (tk1 1)))) rfl
  refine Ly (Y_fieldAddr (off := 2) (by kernel_rfl) rfl rfl) ?_
  refine Ly (Y_ldblk Tryd.underlying3 rfl rfl hk2 rfl) ?_
  refine Ly (Y_gtr rfl rfl) ?_
  refine Ly (Y_pick_f rfl rfl) ?_
  refine Mv ?_
  refine L_splitd (d := 26) rfl (fun c5 => ?_) (fun c5 => ?_)
  ·refine Skp ?_
   refine Skp ?_
   refine Skp ?_
   refine Skp ?_
   refine Skp ?_
   refine Skp ?_
   refine Skp ?_
   refine Skp ?_
   refine Ly (Y_pick_t rfl rfl) ?_
   refine L_nil ?_
   exact X_cut () (sk1 35 (lkb rfl (by first | (simp only [eq_false c4, eq_true c5, SB]; done) | (simp only [eq_false c4, eq_true c5, SB]; rfl))) (sk1 3 rfl (sk1 2 rfl (tk1 1)))) rfl
  refine Ly (Y_fieldAddr (off := 0) (by kernel_rfl) rfl rfl) ?_
  refine Ly (Y_ldblk Tryd.underlying3 rfl rfl hk2 rfl) ?_
  refine Ly (Y_eql rfl rfl) ?_
  refine Mv ?_
  refine L_splitd (d := 30) rfl (fun c6 => ?_) (fun c6 => ?_)
  ·refine Ly (Y_fieldAddr (off := 2) (by kernel_rfl) rfl rfl) ?_
   refine Ly (Y_ldblk Tryd.underlying3 rfl rfl hk2 rfl) ?_
   refine Ly (Y_neq rfl rfl) ?_
   refine Ly (Y_pick_t rfl rfl) ?_
   refine Ly (Y_pick_f rfl rfl) ?_
   refine L_nil ?_
   exact X_cut () (sk1 35 (lkb rfl (by first | (simp only [eq_false c4, eq_false c5, eq_true c6, SB]; done) | (simp only [eq_false c4, eq_false c5, eq_true c6, SB]; rfl))) (sk1 3 rfl (sk1 2 rfl (tk1 1)))) rfl
  refine Skp ?_
  refine Skp ?_
  refine Skp ?_
  refine Ly (Y_pick_f rfl rfl) ?_
  refine Ly (Y_pick_f rfl rfl) ?_
  refine L_nil ?_
  exact X_cut () (sk1 35 (lkb rfl (by first | (simp only [eq_false c4, eq_false c5, eq_false c6, SB]; done) | (simp only [eq_false c4, eq_false c5, eq_false c6, SB]; rfl))) (sk1 3 rfl (sk1 2 rfl (tk1 1)))) rfl
 rintro _ h1 rfl
 show W _ _ _ _ _ [(35, .bool (decide (((m < 0) ∨ (4095 < m)) ∨ ((k = 2) ∧ (¬ m = 0))))), (3, .int .i64 (pcheck p)), (2, .int .i64 0), (1, .pointer (some ⟨h.size, 0, none⟩))] _
 refine W_splitd rfl (fun c => ?_) (fun c => ?_)
 ·refine Wr ?_
  refine Av ?_
  refine Nx ?_
  refine W_sub _ (tk3 2 3 1) ?_
  refine W_ret (X_then_ret ?_)
  refine X_ret1 rfl rfl ?_
  exact ⟨by unfold fcheck; rw [if_neg (by omega), if_neg b, if_pos c], hn1.ext⟩
 refine Ws ?_
 refine W_sub _ (tk3 3 2 1) ?_
 refine Wr ?_
 refine Ly (Y_ldbox (us := [.int .i64 (k), str p, .int .i64 (m), str tg, .int .i64 (z)]) Tryd.underlying27 rfl (show _ = some 5 by kernel_rfl) rfl hk2 rfl) ?_
 refine L_call (E_call (by kernel_rfl) rfl) (ref10_target _ k p m tg z (by first | omega | rfl | (simp <;> omega))) rfl rfl rfl ?_
 rintro _ h2 ⟨rfl, hx7⟩
 refine Av ?_
 refine Nx ?_
 refine W_sub _ (tk3 3 2 1) ?_
 refine W_seq (W_seq (W_region ?_))
 refine Mv ?_
 refine Ly (Y_neq rfl rfl) ?_
 refine Nx ?_
 refine W_sub _ (tk4 39 3 2 1) ?_
 refine W_splitd rfl (fun f => ?_) (fun f => ?_)
 ·refine Wr ?_
  refine Mv ?_
  refine Av ?_
  refine Nx ?_
  refine W_sub _ (tk2 2 1) ?_
  refine W_ret (X_then_ret ?_)
  refine X_ret1 rfl rfl ?_
  exact ⟨by unfold fcheck; rw [if_neg (by omega), if_neg b, if_neg c, if_pos f], (hn1.ext.trans hx7)⟩
 refine Ws ?_
 refine W_sub _ (tk2 2 1) ?_
 refine W_seq (W_seq (W_region ?_))
 refine Ly (Y_fieldAddr (off := 0) (by kernel_rfl) rfl rfl) ?_
 refine Ly (Y_ldblk Tryd.underlying3 rfl rfl (hk2.ext hx7) rfl) ?_
 refine Ly (Y_eql rfl rfl) ?_
 refine Nx ?_
 refine W_sub _ (tk3 43 2 1) ?_
 refine W_splitd rfl (fun k1 => ?_) (fun k1 => ?_)
 ·refine W_seq ?_
  refine W_cut (S := Unit) (fun _ => [(51, .bool (decide ((z < 0) ∨ (1099511627776 < z)))), (2, .int .i64 0), (1, .pointer (some ⟨h.size, 0, none⟩))]) (fun _ h' => h' = h2) ?_ ?_
  ·refine W_region ?_
   refine Ly (Y_fieldAddr (off := 4) (by kernel_rfl) rfl rfl) ?_
   refine Ly (Y_ldblk Tryd.underlying2 rfl rfl (hk2.ext hx7) rfl) ?_
   refine Ly (Y_lss rfl rfl) ?_
   refine Mv ?_
   refine L_splitd (d := 47) rfl (fun c8 => ?_) (fun c8 => ?_)
   ·refine Skp ?_
    refine Skp ?_
    refine Skp ?_
    refine Ly (Y_pick_t rfl rfl) ?_
    refine L_nil ?_
    exact X_cut () (sk1 51 (lkb rfl (by first | (simp only [eq_true c8, SB]; done) | (simp only [eq_true c8, SB]; rfl))) (sk1 2 rfl (tk1 1))) rfl
   refine Ly (Y_fieldAddr (off := 4) (by kernel_rfl) rfl rfl) ?_
   refine Ly (Y_ldblk Tryd.underlying2 rfl rfl (hk2.ext hx7) rfl) ?_
   refine Ly (Y_gtr rfl rfl) ?_
   refine Ly (Y_pick_f rfl rfl) ?_
   refine L_nil ?_
   exact X_cut () (sk1 51 (lkb rfl (by first | (simp only [eq_false c8, SB]; done) | (simp only [eq_false c8, SB]; rfl))) (sk1 2 rfl (tk1 1))) rfl
  rintro _ h2 rfl
  show W _ _ _ _ _ [(51, .bool (decide ((z < 0) ∨ (1099511627776 < z)))), (2, .int .i64 0), (1, .pointer (some ⟨h.size, 0, none⟩))] _
  refine W_splitd rfl (fun z1 => ?_) (fun z1 => ?_)
  ·refine Wr ?_
   refine Av ?_
   refine Nx ?_
   refine W_sub _ (tk2 2 1) ?_
   refine W_ret (X_then_ret (X_then_ret ?_))
   refine X_ret1 rfl rfl ?_
   exact ⟨by unfold fcheck; rw [if_neg (by omega), if_neg b, if_neg c, if_neg f]; unfold fsize; rw [if_pos ⟨k1, z1⟩], (hn1.ext.trans hx7)⟩
  refine Ws ?_
  refine W_sub _ (tk2 2 1) ?_
  refine Wr ?_
  refine Av ?_
  refine L_nil (X_then (W_ret (X_then_ret ?_)))
  refine X_ret1 rfl rfl ?_
  exact ⟨by unfold fcheck; rw [if_neg (by omega), if_neg b, if_neg c, if_neg f]; unfold fsize; rw [if_neg (fun e => z1 e.2), if_neg (fun e => e.1 k1)], (hn1.ext.trans hx7)⟩
 refine Ws ?_
 refine W_sub _ (tk2 2 1) ?_
 refine W_seq (W_seq (W_region ?_))
 refine Ly (Y_fieldAddr (off := 4) (by kernel_rfl) rfl rfl) ?_
 refine Ly (Y_ldblk Tryd.underlying2 rfl rfl (hk2.ext hx7) rfl) ?_
 refine Ly (Y_neq rfl rfl) ?_
 refine Nx ?_
 refine W_sub _ (tk2 54 2) ?_
 refine W_splitd rfl (fun z1 => ?_) (fun z1 => ?_)
 ·refine Wr ?_
  refine Av ?_
  refine Nx ?_
  refine W_sub _ (tk1 2) ?_
  refine W_ret (X_then_ret ?_)
  refine X_ret1 rfl rfl ?_
  exact ⟨by unfold fcheck; rw [if_neg (by omega), if_neg b, if_neg c, if_neg f]; unfold fsize; rw [if_neg (fun e => k1 e.1), if_pos ⟨k1, z1⟩], (hn1.ext.trans hx7)⟩
 refine Ws ?_
 refine W_sub _ (tk1 2) ?_
 refine Wr ?_
 refine Av ?_
 refine L_nil (X_then (W_ret ?_))
 refine X_ret1 rfl rfl ?_
 exact ⟨by unfold fcheck; rw [if_neg (by omega), if_neg b, if_neg c, if_neg f]; unfold fsize; rw [if_neg (fun e => k1 e.1), if_neg (fun e => z1 e.2)], (hn1.ext.trans hx7)⟩
end Go.Xp
