/- Layer 10 (fit): the reference, and the laws' helpers. -/
import Derived.Test.YtdmhigknppkniaaGreatDoorFit
import Derived.Test.YtdmhigknppkniaaGreatDoorGlb
set_option linter.unusedSimpArgs false
set_option linter.unusedVariables false
set_option linter.unusedSectionVars false
set_option maxRecDepth 100000
namespace Go.Xp
open Go.Proofs

theorem ref10_target (h : Heap) (k : Int) (p : List UInt8) (m : Int) (tg : List UInt8) (z : Int) (ht : tg.length ≤ 140737488355328) : Cal Tryz.prog 136 #[.agg #[.int .i64 (k), str p, .int .i64 (m), str tg, .int .i64 (z)]] h (fun v h' => v = .int .i64 (ftarget k tg) ∧ Ext h h') := by
 refine Ce Tryz.func136 fun σ => ?_
 refine Wr ?_
 refine L_mks (M_box rfl) rfl rfl rfl ?_
 rintro _ h1 ⟨rfl, hn1⟩
 have hk2 : Blk h1 h.size [.int .i64 (k), str p, .int .i64 (m), str tg, .int .i64 (z)] := hn1.blk
 refine Av ?_
 refine Ln (Xt (Wq (Wq (Wg ?_))))
 refine Lf 0 ?_
 refine Lb Tryz.underlying3 hk2 ?_
 refine Ln (Xt (Wb (Wq (Wg ?_))))
 refine Ly Yeq ?_
 refine An ?_
 refine Sd (fun a => ?_) fun a => ?_
 ·refine Wq (Wq (Wg ?_))
  refine Lf 3 ?_
  refine Lb Tryz.underlying9 hk2 ?_
  refine Ly (Y_slen Tryz.underlying9 rfl) ?_
  refine Ly (Y_gtr rfl rfl) ?_
  refine Nx ?_
  refine Wu _ (tk3 14 2 1) ?_
  refine Sd (fun g => ?_) fun g => ?_
  ·refine Wa ?_
   refine Ln (Xt (Wt (Xr (Yr (Xr ?_)))))
   refine Xv1 ?_
   have w9 : ¬ k = 3 := by omega
   exact ⟨by unfold ftarget; rw [if_neg w9, if_pos a, rerr_path (by simp) (by simp), if_pos (by omega)], hn1.ext⟩
  refine Wk (Xt (Wq (Wq (Wg ?_))))
  refine Lf 3 ?_
  refine Lb Tryz.underlying9 hk2 ?_
  refine Ly (Y_seql rfl rfl) ?_
  refine Nx ?_
  refine Sd (fun n => ?_) fun n => ?_
  ·refine Wa ?_
   refine Ln (Xt (Wt (Xr (Yr (Xr ?_)))))
   refine Xv1 ?_
   have w9 : ¬ k = 3 := by omega
   exact ⟨by unfold ftarget; rw [if_neg w9, if_pos a, rerr_path (by simp) (by simp), if_neg (by omega), if_pos (.inl n)], hn1.ext⟩
  refine Wk (Xt (Wq (Wg ?_)))
  refine Av ?_
  refine Ln (Xt (Wb ?_))
  refine W_loop (S := Nat) (fun i => [(1, .pointer (some ⟨h.size, 0, none⟩)), (3, .int .i64 ((i : Int)))]) (fun i h' => i ≤ tg.length ∧ (∀ k, k < i → ¬ byt tg k = 0) ∧ Ext h1 h') (fun i => tg.length - i) 0 (tk2 1 3) ?_ ?_
  ·exact ⟨by omega, (fun k hk => absurd hk (Nat.not_lt_zero _)), Ext.refl _⟩
  rintro i h2 ⟨hi, hd, hx⟩
  show W _ _ _ _ _ [(1, .pointer (some ⟨h.size, 0, none⟩)), (3, .int .i64 ((i : Int)))] _
  refine Wq (Wq (Wg ?_))
  refine Mv ?_
  refine Lf 3 ?_
  refine Lb Tryz.underlying9 (hk2.ext hx) ?_
  refine Ly (Y_slen Tryz.underlying9 rfl) ?_
  refine Ly Yls ?_
  refine Nx ?_
  refine Sd (fun hl => ?_) fun hl => ?_
  ·refine Wk (Xt (Wq (Wb (Wq (Wg ?_)))))
   refine Lf 3 ?_
   refine Lb Tryz.underlying9 (hk2.ext hx) ?_
   refine Mv ?_
   refine Ly (Y_sidx Tryz.underlying9 rfl rfl (by omega) (by omega)) ?_
   refine Ly Yeq ?_
   refine Nx ?_
   refine Wu _ (tk3 29 1 3) ?_
   refine Sd (fun y => ?_) fun y => ?_
   ·refine Wa ?_
    refine Ln (Xt (Wt (Yr (Xr (Xr (Yr (Yr (Xr ?_))))))))
    refine Xv1 ?_
    have w9 : ¬ k = 3 := by omega
    exact ⟨by unfold ftarget; rw [if_neg w9, if_pos a, rerr_path (by simp) (by simp), if_neg (by omega), if_pos (.inr (mem0_iff.2 ⟨i, by omega, by rw [Int.toNat_natCast] at y; exact y⟩))], (hn1.ext.trans hx)⟩
   refine Wk (Xb (Xt (Wg ?_)))
   refine Mv ?_
   refine Lad ?_
   refine Av ?_
   refine Ln ?_
   refine X_loop (i + 1) (tk2 1 3) ?_ ?_
   ·exact ⟨by omega, step_ne hd (by rw [Int.toNat_natCast] at y; omega), hx⟩
   (try dsimp only)
   omega
  refine W_exit ?_
  refine Xe (Xe ?_)
  refine X_block_hit ?_
  refine Xb (Xt ?_)
  refine Wu _ sN ?_
  refine Wa ?_
  refine Ln (Xt (Wt ?_))
  refine Xv1 ?_
  have w9 : ¬ k = 3 := by omega
  exact ⟨by unfold ftarget; rw [if_neg w9, if_pos a, rerr_path (by simp) (by simp), if_neg (by omega), if_neg (fun e => e.elim n (fun e => by obtain ⟨q, q1, q2⟩ := mem0_iff.1 e; exact hd q (by omega) q2))], (hn1.ext.trans hx)⟩
 refine Wr ?_
 refine Ly Yeq ?_
 refine An ?_
 refine Wu _ (tk3 30 2 1) ?_
 refine Sd (fun b => ?_) fun b => ?_
 ·refine Wr ?_
  refine Lf 3 ?_
  refine Lb Tryz.underlying9 hk2 ?_
  refine Lc (ref08_Check _ tg) ?_
  rintro _ h1 ⟨rfl, rfl⟩
  refine Av ?_
  refine Ln (Xt (Wt (Yr (Xr ?_))))
  refine Xv1 ?_
  exact ⟨by unfold ftarget; rw [if_pos b], hn1.ext⟩
 refine Wr ?_
 refine Lf 3 ?_
 refine Lb Tryz.underlying9 hk2 ?_
 refine Ly (Y_sneq rfl rfl) ?_
 refine Nx ?_
 refine Sd (fun c => ?_) fun c => ?_
 ·refine Wa ?_
  refine Ln (Xt (Wt (Yr (Xr ?_))))
  refine Xv1 ?_
  exact ⟨by unfold ftarget; rw [if_neg b, if_neg a, if_pos c], hn1.ext⟩
 refine Wk (Xb (Xt (Wq (Wg ?_))))
 refine Av ?_
 refine Ln (Xt (Wt ?_))
 refine Xv1 ?_
 exact ⟨by unfold ftarget; rw [if_neg b, if_neg a, if_neg c], hn1.ext⟩
theorem ref10_Check (h : Heap) (k : Int) (p : List UInt8) (m : Int) (tg : List UInt8) (z : Int) (hp : p.length ≤ 140737488355328) (ht : tg.length ≤ 140737488355328) : Cal Tryz.prog 108 #[.agg #[.int .i64 (k), str p, .int .i64 (m), str tg, .int .i64 (z)]] h (fun v h' => v = .int .i64 (fcheck k p m tg z) ∧ Ext h h') := by
 refine Ce Tryz.func108 fun σ => ?_
 refine Wr ?_
 refine L_mks (M_box rfl) rfl rfl rfl ?_
 rintro _ h1 ⟨rfl, hn1⟩
 have hk2 : Blk h1 h.size [.int .i64 (k), str p, .int .i64 (m), str tg, .int .i64 (z)] := hn1.blk
 refine Av ?_
 refine Ln (Xt (Wq ?_))
 refine Wc [(11, .bool (decide ((k < 0) ∨ (3 < k)))), (2, .int .i64 0), (1, .pointer (some ⟨h.size, 0, none⟩))] (fun h' => h' = h1) ?_ ?_
 ·refine Wg ?_
  refine Lf 0 ?_
  refine Lb Tryz.underlying3 hk2 ?_
  refine Ly Yls ?_
  refine Mv ?_
  refine L_splitd (d := 7) rfl (fun c3 => ?_) (fun c3 => ?_)
  ·refine Sk2 ?_
   refine Skp ?_
   refine Ly Ypt ?_
   refine Ln ?_
   exact X_cut () (sk1 11 (lkb rfl (by first | (simp only [eq_true c3, SB]; done) | (simp only [eq_true c3, SB]; rfl))) (sk1 2 rfl (tk1 1))) rfl
  refine Lf 0 ?_
  refine Lb Tryz.underlying3 hk2 ?_
  refine Ly (Y_gtr rfl rfl) ?_
  refine Ly Ypf ?_
  refine Ln ?_
  exact X_cut () (sk1 11 (lkb rfl (by first | (simp only [eq_false c3, SB]; done) | (simp only [eq_false c3, SB]; rfl))) (sk1 2 rfl (tk1 1))) rfl
 rintro h1 rfl
 refine Sd (fun a => ?_) fun a => ?_
 ·refine Wa ?_
  refine Ln (Xt (Wt (Xr ?_)))
  refine Xv1 ?_
  exact ⟨by unfold fcheck; rw [if_pos (by omega)], hn1.ext⟩
 refine Wk (Xt (Wq (Wg ?_)))
 refine Lf 1 ?_
 refine Lb Tryz.underlying9 hk2 ?_
 refine Lc (ref08_Check _ p) ?_
 rintro _ h1 ⟨rfl, rfl⟩
 refine Av ?_
 refine Ln (Xt (Wq (Wq (Wg ?_))))
 refine Mv ?_
 refine Ly Yne ?_
 refine Nx ?_
 refine Sd (fun b => ?_) fun b => ?_
 ·refine Wm ?_
  refine An ?_
  refine Wu _ (tk3 2 3 1) ?_
  refine Wt (Xr ?_)
  refine Xv1 ?_
  exact ⟨by unfold fcheck; rw [if_neg (by omega), if_pos b], hn1.ext⟩
 refine Ws ?_
 refine Wu _ (tk3 3 2 1) ?_
 refine Wq ?_
 refine Wc [(35, .bool (decide (((m < 0) ∨ (4095 < m)) ∨ ((k = 2) ∧ (¬ m = 0))))), (3, .int .i64 (pcheck p)), (2, .int .i64 0), (1, .pointer (some ⟨h.size, 0, none⟩))] (fun h' => h' = h1) ?_ ?_
 ·refine Wg ?_
  refine Lf 2 ?_
  refine Lb Tryz.underlying3 hk2 ?_
  refine Ly Yls ?_
  refine Mv ?_
  refine L_splitd (d := 21) rfl (fun c4 => ?_) (fun c4 => ?_)
  ·refine Sk2 ?_
   refine Skp ?_
   refine Ly Ypt ?_
   refine Mv ?_
   refine Sk2 ?_
   refine Sk2 ?_
   refine Sk2 ?_
   refine Sk2 ?_
   refine Ly Ypt ?_
   refine Ln ?_
   exact X_cut () (sk1 35 (lkb rfl (by first | (simp only [eq_true c4, SB]; done) | (simp only [eq_true c4, SB]; rfl))) (sk1 3 rfl (sk1 2 rfl (tk1 1)))) rfl
  refine Lf 2 ?_
  refine Lb Tryz.underlying3 hk2 ?_
  refine Ly (Y_gtr rfl rfl) ?_
  refine Ly Ypf ?_
  refine Mv ?_
  refine L_splitd (d := 26) rfl (fun c5 => ?_) (fun c5 => ?_)
  ·refine Sk2 ?_
   refine Sk2 ?_
   refine Sk2 ?_
   refine Sk2 ?_
   refine Ly Ypt ?_
   refine Ln ?_
   exact X_cut () (sk1 35 (lkb rfl (by first | (simp only [eq_false c4, eq_true c5, SB]; done) | (simp only [eq_false c4, eq_true c5, SB]; rfl))) (sk1 3 rfl (sk1 2 rfl (tk1 1)))) rfl
  refine Lf 0 ?_
  refine Lb Tryz.underlying3 hk2 ?_
  refine Ly Yeq ?_
  refine Mv ?_
  refine L_splitd (d := 30) rfl (fun c6 => ?_) (fun c6 => ?_)
  ·refine Lf 2 ?_
   refine Lb Tryz.underlying3 hk2 ?_
   refine Ly Yne ?_
   refine Ly Ypt ?_
   refine Ly Ypf ?_
   refine Ln ?_
   exact X_cut () (sk1 35 (lkb rfl (by first | (simp only [eq_false c4, eq_false c5, eq_true c6, SB]; done) | (simp only [eq_false c4, eq_false c5, eq_true c6, SB]; rfl))) (sk1 3 rfl (sk1 2 rfl (tk1 1)))) rfl
  refine Sk2 ?_
  refine Skp ?_
  refine Ly Ypf ?_
  refine Ly Ypf ?_
  refine Ln ?_
  exact X_cut () (sk1 35 (lkb rfl (by first | (simp only [eq_false c4, eq_false c5, eq_false c6, SB]; done) | (simp only [eq_false c4, eq_false c5, eq_false c6, SB]; rfl))) (sk1 3 rfl (sk1 2 rfl (tk1 1)))) rfl
 rintro h1 rfl
 refine Sd (fun c => ?_) fun c => ?_
 ·refine Wa ?_
  refine Ln (Xt (Wt (Xr ?_)))
  refine Xv1 ?_
  exact ⟨by unfold fcheck; rw [if_neg (by omega), if_neg b, if_pos c], hn1.ext⟩
 refine Wk (Xt (Wq (Wg ?_)))
 refine Lg Tryz.underlying37 hk2 ?_
 refine Lc (ref10_target _ k p m tg z (by first | omega | rfl | (simp <;> omega))) ?_
 rintro _ h2 ⟨rfl, hx7⟩
 refine Av ?_
 refine Ln (Xt (Wq (Wq (Wg ?_))))
 refine Mv ?_
 refine Ly Yne ?_
 refine Nx ?_
 refine Sd (fun f => ?_) fun f => ?_
 ·refine Wm ?_
  refine An ?_
  refine Wu _ (tk2 2 1) ?_
  refine Wt (Xr ?_)
  refine Xv1 ?_
  exact ⟨by unfold fcheck; rw [if_neg (by omega), if_neg b, if_neg c, if_pos f], (hn1.ext.trans hx7)⟩
 refine Ws ?_
 refine Wu _ (tk2 2 1) ?_
 refine Wq (Wq (Wg ?_))
 refine Lf 0 ?_
 refine Lb Tryz.underlying3 (hk2.ext hx7) ?_
 refine Ly Yeq ?_
 refine Nx ?_
 refine Sd (fun k1 => ?_) fun k1 => ?_
 ·refine Wq ?_
  refine Wc [(51, .bool (decide ((z < 0) ∨ (1099511627776 < z)))), (2, .int .i64 0), (1, .pointer (some ⟨h.size, 0, none⟩))] (fun h' => h' = h2) ?_ ?_
  ·refine Wg ?_
   refine Lf 4 ?_
   refine Lb Tryz.underlying2 (hk2.ext hx7) ?_
   refine Ly Yls ?_
   refine Mv ?_
   refine L_splitd (d := 47) rfl (fun c8 => ?_) (fun c8 => ?_)
   ·refine Sk2 ?_
    refine Skp ?_
    refine Ly Ypt ?_
    refine Ln ?_
    exact X_cut () (sk1 51 (lkb rfl (by first | (simp only [eq_true c8, SB]; done) | (simp only [eq_true c8, SB]; rfl))) (sk1 2 rfl (tk1 1))) rfl
   refine Lf 4 ?_
   refine Lb Tryz.underlying2 (hk2.ext hx7) ?_
   refine Ly (Y_gtr rfl rfl) ?_
   refine Ly Ypf ?_
   refine Ln ?_
   exact X_cut () (sk1 51 (lkb rfl (by first | (simp only [eq_false c8, SB]; done) | (simp only [eq_false c8, SB]; rfl))) (sk1 2 rfl (tk1 1))) rfl
  rintro h2 rfl
  refine Sd (fun z1 => ?_) fun z1 => ?_
  ·refine Wa ?_
   refine Ln (Xt (Wt (Xr (Xr ?_))))
   refine Xv1 ?_
   exact ⟨by unfold fcheck; rw [if_neg (by omega), if_neg b, if_neg c, if_neg f]; unfold fsize; rw [if_pos ⟨k1, z1⟩], (hn1.ext.trans hx7)⟩
  refine Wk (Xt (Wq (Wg ?_)))
  refine Av ?_
  refine Ln (Xt (Wt (Xr ?_)))
  refine Xv1 ?_
  exact ⟨by unfold fcheck; rw [if_neg (by omega), if_neg b, if_neg c, if_neg f]; unfold fsize; rw [if_neg (fun e => z1 e.2), if_neg (fun e => e.1 k1)], (hn1.ext.trans hx7)⟩
 refine Wk (Xt (Wq (Wq (Wg ?_))))
 refine Lf 4 ?_
 refine Lb Tryz.underlying2 (hk2.ext hx7) ?_
 refine Ly Yne ?_
 refine Nx ?_
 refine Wu _ (tk2 54 2) ?_
 refine Sd (fun z1 => ?_) fun z1 => ?_
 ·refine Wa ?_
  refine Ln (Xt (Wt (Xr ?_)))
  refine Xv1 ?_
  exact ⟨by unfold fcheck; rw [if_neg (by omega), if_neg b, if_neg c, if_neg f]; unfold fsize; rw [if_neg (fun e => k1 e.1), if_pos ⟨k1, z1⟩], (hn1.ext.trans hx7)⟩
 refine Wk (Xt (Wq (Wg ?_)))
 refine Av ?_
 refine Ln (Xt (Wt ?_))
 refine Xv1 ?_
 exact ⟨by unfold fcheck; rw [if_neg (by omega), if_neg b, if_neg c, if_neg f]; unfold fsize; rw [if_neg (fun e => k1 e.1), if_neg (fun e => z1 e.2)], (hn1.ext.trans hx7)⟩
theorem rec_ext {a b : List Rec} (hl : a.length = b.length) (h : ∀ k, k < a.length → at_rec a k = at_rec b k) : a = b := by
  apply List.ext_getElem hl
  intro i h1 h2
  have := h i h1
  rw [at_rec_eq h1, at_rec_eq h2] at this
  exact this

theorem rec_eq {a b : Rec} (h : a.key = b.key ∧ a.val = b.val) : a = b := by cases a; cases b; cases h.1; cases h.2; rfl
theorem slices_EqualR (h : Heap) (v : Value) (a : List Rec) (ha : Rows recS h v a) (u : Value) (b : List Rec) (hb : Rows recS h u b) (hl0 : a.length ≤ 140737488355328) : Cal Tryz.prog 63 #[v, u] h (fun v h' => v = .bool (decide (a = b)) ∧ h' = h) := by
 refine Ce Tryz.func63 fun σ => ?_
 refine Wa ?_
 refine Ln (Xt (Wq (Wq (Wg ?_))))
 refine Mv ?_
 refine Ly (Y_lenr Tryz.underlying74 rfl ha) ?_
 refine Mv ?_
 refine Ly (Y_lenr Tryz.underlying74 rfl hb) ?_
 refine Ly Yne ?_
 refine Nx ?_
 refine Sd (fun c => ?_) fun c => ?_
 ·refine Wa ?_
  refine Ln (Xt (Wt (Xr ?_)))
  refine Xv1 ?_
  exact ⟨by rw [decide_eq_false (fun e => c (by rw [e]))], rfl⟩
 refine Ws ?_
 have hlen : a.length = b.length := by omega
 refine Wq (Wq (Wg ?_))
 refine Mv ?_
 refine Ly (Y_lenr Tryz.underlying74 rfl ha) ?_
 refine Mv ?_
 refine Nx ?_
 refine Wu _ (tk5 13 12 4 0 1) ?_
 refine Wb ?_
 refine W_loop (S := Nat) (fun i => [(12, .int .i64 ((a.length : Int))), (0, v), (1, u), (13, .int .i64 ((i : Int)))]) (fun i h' => i ≤ a.length ∧ (∀ k, k < i → at_rec a k = at_rec b k) ∧ h' = h) (fun i => a.length - i) 0 (tk4 12 0 1 13) ?_ ?_
 ·exact ⟨Nat.zero_le _, (fun _ hk => absurd hk (Nat.not_lt_zero _)), rfl⟩
 rintro i h ⟨hi, hip, rfl⟩
 show W _ _ _ _ _ [(12, .int .i64 ((a.length : Int))), (0, v), (1, u), (13, .int .i64 ((i : Int)))] _
 refine Wr ?_
 refine Ly Yls ?_
 refine Ln (Xt (Wq ?_))
 refine Sd (fun hl => ?_) fun hl => ?_
 ·refine Wk (Xt (Wq (Wb (Wq (Wg ?_)))))
  refine Mv ?_
  refine Av ?_
  refine Ln (Xt (Wq ?_))
  refine W_quiet (fun h' => h' = h) (by kernel_rfl) (by kernel_rfl) rfl ?_
  refine Qm ?_
  refine Qm ?_
  refine Qy (Y_idxr Tryz.underlying74 (show _ = some 2 by kernel_rfl) rfl rfl rfl ha (by omega) (by omega)) ?_
  refine Qy (Y_ldrA0 (k := ((i : Int)).toNat) (us := [str ((at_rec a ((i : Int)).toNat).key), str ((at_rec a ((i : Int)).toNat).val)]) Tryz.underlying139 rfl (show _ = some 2 by kernel_rfl) rfl rfl ha (by omega) rfl) ?_
  refine Qm ?_
  refine Qm ?_
  refine Qy (Y_idxr Tryz.underlying74 (show _ = some 2 by kernel_rfl) rfl rfl rfl hb (by omega) (by omega)) ?_
  refine Qy (Y_ldrA0 (k := ((i : Int)).toNat) (us := [str ((at_rec b ((i : Int)).toNat).key), str ((at_rec b ((i : Int)).toNat).val)]) Tryz.underlying139 rfl (show _ = some 2 by kernel_rfl) rfl rfl hb (by omega) rfl) ?_
  refine Qy (Y_decneg (Y_stneq (xs := [str ((at_rec a ((i : Int)).toNat).key), str ((at_rec a ((i : Int)).toNat).val)]) (ys := [str ((at_rec b ((i : Int)).toNat).key), str ((at_rec b ((i : Int)).toNat).val)]) (r := decide (((at_rec a ((i : Int)).toNat).key) = ((at_rec b ((i : Int)).toNat).key) ∧ ((at_rec a ((i : Int)).toNat).val) = ((at_rec b ((i : Int)).toNat).val))) (by kernel_rfl) (by kernel_rfl) (by kernel_rfl) rfl rfl (steq (ks := [.s, .s]) (by kernel_rfl) (by simp [eqks, eqk])))) ?_
  refine LQ_nil ?_
  rintro h rfl
  refine Xt ?_
  refine Wu _ (tk5 24 12 0 1 13) ?_
  refine Sd (fun hne => ?_) fun hne => ?_
  ·refine Wa ?_
   refine Ln (Xt (Wt (Yr (Xr (Xr (Yr (Xr ?_)))))))
   refine Xv1 ?_
   exact ⟨by rw [decide_eq_false (fun e => hne ⟨by rw [e], by rw [e]⟩)], rfl⟩
  refine Wk (Xb (Xt (Wg ?_)))
  refine Lad ?_
  refine Mv ?_
  refine Ln ?_
  refine X_loop (i + 1) (tk4 12 0 1 13) ?_ ?_
  ·exact ⟨by omega, (step_ne hip (by have h9 := Classical.not_not.1 hne; rw [Int.toNat_natCast] at h9; exact rec_eq h9)), rfl⟩
  (try dsimp only)
  omega
 refine W_exit ?_
 refine Xe (Xe ?_)
 refine X_block_hit ?_
 refine Xt (Wq (Wg ?_))
 refine Av ?_
 refine Ln (Xt (Wt ?_))
 refine Xv1 ?_
 exact ⟨by rw [decide_eq_true (rec_ext hlen (fun k hk => hip k (by omega)))], rfl⟩

theorem sok_nil {p : List UInt8} (h : sok p = false) : snam p = [] ∧ spre p = [] := by
  unfold sok at h
  simp only [Bool.or_eq_false_iff, decide_eq_false_iff_not, Bool.not_eq_false'] at h
  unfold snam spre
  exact ⟨by rw [if_neg h.1, if_pos h.2], by rw [if_neg h.1, if_pos h.2]⟩
theorem ref10_Plan (h : Heap) (k : Int) (p : List UInt8) (m : Int) (tg : List UInt8) (z : Int) (hp : p.length ≤ 140737488355328) (ht : tg.length ≤ 140737488355328) (hz : -9223372036854775808 ≤ z ∧ z ≤ 9223372036854775807) : Cal Tryz.prog 74 #[.agg #[.int .i64 (k), str p, .int .i64 (m), str tg, .int .i64 (z)]] h (fun v h' => ∃ s1, v = .tuple #[.agg #[.int .u8 (fT (fcheck k p m tg z) k), str (fN (fcheck k p m tg z) p), str (fP (fcheck k p m tg z) p), str (fL (fcheck k p m tg z) tg), .int .i64 (fM (fcheck k p m tg z) m), .int .i64 (fZ (fcheck k p m tg z) z)], s1, .int .i64 (fcheck k p m tg z)] ∧ RowsO recS h' h.size s1 (fR (fcheck k p m tg z) p tg z) ∧ Ext h h') := by
 refine Ce Tryz.func74 fun σ => ?_
 refine Wr ?_
 refine L_mks (M_box rfl) rfl rfl rfl ?_
 rintro _ h1 ⟨rfl, hn1⟩
 have hk2 : Blk h1 h.size [.int .i64 (k), str p, .int .i64 (m), str tg, .int .i64 (z)] := hn1.blk
 refine L_mks (M_alloc (u := .agg #[.int .u8 0, str [], str [], str [], .int .i64 0, .int .i64 0]) (by kernel_rfl)) rfl rfl rfl ?_
 rintro _ h2 ⟨rfl, hn3⟩
 have hk4 : Blk h2 h1.size [.int .u8 0, str [], str [], str [], .int .i64 0, .int .i64 0] := hn3.blk
 refine A2 ?_
 refine Ln (Xt (Wq (Wg ?_)))
 refine Lg Tryz.underlying37 (hk2.ext hn3.ext) ?_
 refine Lc (ref10_Check _ k p m tg z (by first | first | omega | (simp; done) | (simp; omega) | rfl | (simp <;> omega)) (by first | first | omega | (simp; done) | (simp; omega) | rfl | (simp <;> omega))) ?_
 rintro _ h3 ⟨rfl, hx5⟩
 refine Av ?_
 refine Ln (Xt (Wq (Wq (Wg ?_))))
 refine Mv ?_
 refine Ly Yne ?_
 refine Nx ?_
 refine Sd (fun e => ?_) fun e => ?_
 ·refine Wr ?_
  refine Ly (Yb (.agg #[.int .u8 0, str [], str [], str [], .int .i64 0, .int .i64 0]) [] [] []) ?_
  refine Mv ?_
  refine Lds [.int .u8 0, str [], str [], str [], .int .i64 0, .int .i64 0] (hk4.ext hx5) ?_
  rintro h4 hp6
  have hk7 : Blk h4 h1.size [.int .u8 0, str [], str [], str [], .int .i64 0, .int .i64 0] := hp6.blk
  refine A2 ?_
  refine Nx ?_
  refine Wu _ (tk4 4 3 2 1) ?_
  refine Wt (Xr ?_)
  refine X_retv3 rfl (RVa Tryz.underlying82 hk7) rfl rfl ?_
  have me1 := ((hn1.ext.trans hn3.ext).trans hx5).then' hp6.only (by simp) hn1.ext.size
  refine ⟨.slice none 0 0, by simp [fT, fN, fP, fL, fM, fZ, e], ?_, me1⟩
  rw [fR, if_neg e]
  exact RowsO.nil _ _ _
 refine Ws ?_
 refine Wu _ (tk4 4 3 2 1) ?_
 have e0 : fcheck k p m tg z = 0 := Classical.not_not.1 e
 have hkk := fcheck_kind e0
 refine Wq ?_
 refine W_pers [(4, .int .i64 0), (3, .slice none 0 0), (2, .pointer (some ⟨h1.size, 0, none⟩)), (1, .pointer (some ⟨h.size, 0, none⟩))] (tk4 4 3 2 1) (by kernel_rfl) ?_
 refine LP_op 0 (fun hh r4_1 => OwnB hh h3.size r4_1 ([53, 48, 50, 49])) [] rfl rfl (by kernel_rfl) (fun _ _ _ x_ p_ => p_.ext x_) ?_ ?_
 ·intro h5 hx8
  refine Nn ?_
  refine Stp_mks (M_litb (l := [53, 48, 50, 49]) (cells := [.int .u8 53, .int .u8 48, .int .u8 50, .int .u8 49]) (pv := [(0, .int .u8 53), (1, .int .u8 48), (2, .int .u8 50), (3, .int .u8 49)]) (E := 5) (evp (is := [0, 1, 2, 3]) (os := [.const (.int .u8 53), .const (.int .u8 48), .const (.int .u8 50), .const (.int .u8 49)]) (vs := [.int .u8 53, .int .u8 48, .int .u8 50, .int .u8 49]) rfl rfl) rfl rfl (fun _ => by kernel_rfl)) rfl ?_
  rintro v9 h6 ⟨ho10, hx11⟩
  exact ⟨hx11, (ho10.low hx8.size)⟩
 refine LPc 1 (.pointer (some ⟨h.size, 0 + 0, none⟩)) [] ?_ ?_
 ·intro h7 hx12
  exact Sf 0
 refine LPc 2 (.int .i64 (k)) [(1, 18)] ?_ ?_
 ·intro h8 hx13
  rintro _ rfl
  exact Sb Tryz.underlying3 (hk2.ext ((hn3.ext.trans hx5).trans hx13))
 refine LP_op 3 (fun hh vv => ∃ r4_1, vv = .pointer (some (elemAddr r4_1 ((k).toNat * 1))) ∧ Bytes hh r4_1 ([53, 48, 50, 49])) [(0, 17), (2, 19)] rfl rfl (by kernel_rfl) (fun _ _ _ x_ p_ => by obtain ⟨r4_1, rfl, q4_1⟩ := p_; exact ⟨_, rfl, q4_1.ext x_⟩) ?_ ?_
 ·intro h9 hx14
  intro r4_1 q4_1
  rintro _ rfl
  refine Nn ?_
  refine Stp_yld (Y_idx Tryz.underlying22 (show _ = some 1 by kernel_rfl) rfl rfl q4_1.bytes (by first | omega | (simp; done) | (simp; omega)) (by first | omega | (simp; done) | (simp; omega))) rfl ?_
  exact ⟨r4_1, rfl, q4_1.bytes⟩
 refine LPc 4 (.int .u8 (byt [53, 48, 50, 49] (k).toNat)) [(3, 20)] ?_ ?_
 ·intro h10 hx15
  rintro _ ⟨r4_1, rfl, q4_1⟩
  exact Sy (Y_ldbyte Tryz.underlying5 rfl rfl q4_1 (by first | omega | (simp; done) | (simp; omega)) (by first | omega | (simp; done) | (simp; omega)))
 refine LPc 5 (.pointer (some ⟨h.size, 0 + 2, none⟩)) [] ?_ ?_
 ·intro h11 hx16
  exact Sf 2
 refine LPc 6 (.int .i64 (m)) [(5, 22)] ?_ ?_
 ·intro h12 hx17
  rintro _ rfl
  exact Sb Tryz.underlying3 (hk2.ext ((hn3.ext.trans hx5).trans hx17))
 refine LPc 7 (.agg #[.int .u8 (byt [53, 48, 50, 49] (k).toNat), str [], str [], str [], .int .i64 (m), .int .i64 0]) [(4, 21), (6, 23)] ?_ ?_
 ·intro h13 hx18
  rintro _ rfl
  rintro _ rfl
  exact Sy (Y_build (v := .agg #[.int .u8 (byt [53, 48, 50, 49] (k).toNat), str [], str [], str [], .int .i64 (m), .int .i64 0]) (pv := [(0, .int .u8 (byt [53, 48, 50, 49] (k).toNat)), (4, .int .i64 (m))]) (evp (is := [0, 4]) (os := [.tmp 21, .tmp 23]) (vs := [.int .u8 (byt [53, 48, 50, 49] (k).toNat), .int .i64 (m)]) rfl rfl) (fun _ => by kernel_rfl))
 refine LP_op 8 (fun hh vv => ∃ r4_2, vv = .pointer (some ⟨r4_2, 0, none⟩) ∧ Blk hh r4_2 [.int .u8 0, str [], str [], str [], .int .i64 0, .int .i64 0] ∧ h3.size ≤ r4_2) [] rfl rfl (by kernel_rfl) (fun _ _ _ x_ p_ => by obtain ⟨r4_2, rfl, q4_2, q4_2l⟩ := p_; exact ⟨_, rfl, q4_2.ext x_, q4_2l⟩) ?_ ?_
 ·intro h14 hx19
  refine Nn ?_
  refine Stp_mks (M_alloc (u := .agg #[.int .u8 0, str [], str [], str [], .int .i64 0, .int .i64 0]) (by kernel_rfl)) rfl ?_
  rintro _ h15 ⟨rfl, hn20⟩
  have hk21 : Blk h15 h14.size [.int .u8 0, str [], str [], str [], .int .i64 0, .int .i64 0] := hn20.blk
  exact ⟨hn20.ext, ⟨h14.size, rfl, hk21, hx19.size⟩⟩
 refine LP_tail rfl 9 [(7, 24), (8, 6)] rfl rfl (by kernel_rfl) (by kernel_rfl) (by kernel_rfl) rfl ?_
 intro h16 hx22
 rintro _ rfl
 rintro _ ⟨r4_2, rfl, q4_2, q4_2l⟩
 refine Nn ?_
 refine Lds [.int .u8 (byt [53, 48, 50, 49] (k).toNat), str [], str [], str [], .int .i64 (m), .int .i64 0] q4_2 ?_
 rintro h17 hp23
 have hk24 : Blk h17 r4_2 [.int .u8 (byt [53, 48, 50, 49] (k).toNat), str [], str [], str [], .int .i64 (m), .int .i64 0] := hp23.blk
 refine Ln (Xt (Wq (Wg ?_)))
 refine An ?_
 have hg6 : h3.size ≤ (r4_2) := q4_2l
 have hg7 : ∀ b ∈ [r4_2], h3.size ≤ b := fun b hb => by rw [List.mem_singleton.1 hb]; exact hg6
 have hgA : h3.size ≤ h17.size := by have := (hk24).lt; omega
 refine W_cut (S := Value) (fun u1 => [(6, .pointer (some ⟨r4_2, 0, none⟩)), (4, .int .i64 0), (3, .slice none 0 0), (2, .pointer (some ⟨h1.size, 0, none⟩)), (1, .pointer (some ⟨h.size, 0, none⟩)), (7, u1)]) (fun u1 h' => RowsO recS h' h17.size u1 (pr1 tg) ∧ Only [r4_2] h17 h' ∧ Blk h' (r4_2) [.int .u8 (ftyp k), str [], str [], str (if 100 < tg.length then [] else tg), .int .i64 m, .int .i64 0]) ?_ ?_
 ·refine Wr ?_
  refine Lf 3 ?_
  have me2 := ((hn3.ext.trans hx5).trans hx22).then' hp23.only (by simp) (nt (nt hn3.ext.size hx5.size) q4_2l)
  refine Lb Tryz.underlying9 (hk2.ext me2) ?_
  refine Ly (Y_slen Tryz.underlying9 rfl) ?_
  refine Ly (Y_leq rfl rfl) ?_
  refine Nx ?_
  refine Sd (fun c1 => ?_) fun c1 => ?_
  ·refine Wg ?_
   refine Lf 3 ?_
   refine Lb Tryz.underlying9 (hk2.ext me2) ?_
   refine Lf 3 ?_
   refine Lds [str tg] hk24 ?_
   rintro h18 hp25
   have hk26 : Blk h18 r4_2 [.int .u8 (byt [53, 48, 50, 49] (k).toNat), str [], str [], str tg, .int .i64 (m), .int .i64 0] := hp25.blk
   refine Ln ?_
   refine X_cut (.slice none 0 0) (tk6 6 4 3 2 1 7) ?_
   exact ⟨by rw [pr1, if_neg (by omega)]; exact RowsO.nil _ _ _, (Only.trans (Only.refl _ _) hp25.only (fun _ hb_ => .inl (by simp only [List.mem_cons, List.not_mem_nil, or_false] at hb_ ⊢; simp [hb_]))), by rw [if_neg (show ¬ 100 < tg.length by omega)]; exact hk26⟩
  refine Wg ?_
  refine Mv ?_
  refine Lf 3 ?_
  refine Lb Tryz.underlying9 (hk2.ext me2) ?_
  refine Ly (Yb (.agg #[str [108, 105, 110, 107, 112, 97, 116, 104], str tg]) [0, 1] [.const (str [108, 105, 110, 107, 112, 97, 116, 104]), .tmp 34] [str [108, 105, 110, 107, 112, 97, 116, 104], str tg]) ?_
  refine L_mks (M_litr (S := recS) (l := [⟨[108, 105, 110, 107, 112, 97, 116, 104], tg⟩]) (cells := [str [108, 105, 110, 107, 112, 97, 116, 104], str tg]) (pv := [(0, .agg #[str [108, 105, 110, 107, 112, 97, 116, 104], str tg])]) (E := 139) (evp (is := [0]) (os := [.tmp 35]) (vs := [.agg #[str [108, 105, 110, 107, 112, 97, 116, 104], str tg]]) rfl rfl) rfl rfl (fun _ => by kernel_rfl) (by simp only [List.mem_cons, List.not_mem_nil, or_false, forall_eq_or_imp, forall_eq]; exact trivial)) rfl rfl rfl ?_
  rintro v27 h19 ⟨ho28, hx29⟩
  refine L_mks (M_appr0 nsRec (z := 2) (bytes := 32) (z0 := (.agg #[str [], str []])) Tryz.underlying74 (by unfold elemRow; kernel_rfl) rfl rfl (by decide) rfl rfl (RowsO.nil recS _ h19.size) ho28.rows (Nat.le_refl _) (by first | (simp only [List.length_cons, List.length_nil]; omega) | (simp; done) | (simp; omega))) rfl rfl rfl ?_
  rintro v30 h20 ha31
  refine Av ?_
  refine Ln ?_
  refine X_cut (v30) (tk6 6 4 3 2 1 7) ?_
  exact ⟨by rw [pr1, if_pos (by omega)]; exact (ha31.own).low hx29.size, (Only.trans (Only.trans (Only.refl _ _) hx29 (fun _ hb_ => by cases hb_)) ha31.only (fun _ hb_ => .inl (by first | exact hb_ | exact List.mem_append_right _ hb_ | simp [blockOf] at hb_))), by rw [if_pos (show 100 < tg.length by omega)]; exact (hk24.ext (hx29.then' ha31.only ha31.ge hx29.size))⟩
 rintro u1 h21 ⟨ho1, hoA, hbA⟩
 show W _ _ _ _ _ [(6, .pointer (some ⟨r4_2, 0, none⟩)), (4, .int .i64 0), (3, .slice none 0 0), (2, .pointer (some ⟨h1.size, 0, none⟩)), (1, .pointer (some ⟨h.size, 0, none⟩)), (7, u1)] _
 refine Wr ?_
 refine Lf 1 ?_
 have me3 := ((hn3.ext.trans hx5).trans hx22).then' hp23.only (by simp) (nt (nt hn3.ext.size hx5.size) q4_2l)
 refine Lb Tryz.underlying9 (hk2.ext (me3.then' hoA hg7 (nt hn3.ext.size hx5.size))) ?_
 refine Lc (ref08_Split _ p (by first | first | omega | (simp; done) | (simp; omega) | rfl | (simp <;> omega))) ?_
 rintro _ h21 ⟨rfl, rfl⟩
 refine Mx ?_
 refine Lx ?_
 refine A2 ?_
 refine An ?_
 refine Wu _ (sk1 10 rfl (tk8 9 8 6 4 3 2 1 7)) ?_
 have hR1 := pr1_len tg
 have hge1 : ∀ b ∈ [r4_2] ++ (blockOf u1).toList, h3.size ≤ b := fun b hb => (List.mem_append.1 hb).elim (hg7 b) (fun hb => nt hgA (Own.lt ho1.1 b (by simpa using hb)).1)
 refine W_cut (S := Value) (fun u2 => [(6, .pointer (some ⟨r4_2, 0, none⟩)), (4, .int .i64 0), (3, .slice none 0 0), (2, .pointer (some ⟨h1.size, 0, none⟩)), (1, .pointer (some ⟨h.size, 0, none⟩)), (7, u2)]) (fun u2 h' => RowsO recS h' h17.size u2 (pr2 tg p) ∧ Only ([r4_2] ++ (blockOf u1).toList) h21 h' ∧ Blk h' (r4_2) [.int .u8 (ftyp k), str (snam p), str (spre p), str (if 100 < tg.length then [] else tg), .int .i64 m, .int .i64 0]) ?_ ?_
 ·refine Wm ?_
  refine Nx ?_
  refine W_split rfl (fun c2 => ?_) (fun c2 => ?_)
  ·refine Wm ?_
   refine Lf 2 ?_
   refine Lds [str (spre p)] hbA ?_
   rintro h22 hp32
   have hk33 : Blk h22 r4_2 [.int .u8 (ftyp k), str [], str (spre p), str (if 100 < tg.length then [] else tg), .int .i64 (m), .int .i64 0] := hp32.blk
   refine Ln (Xt (Wg ?_))
   refine Mv ?_
   refine Lf 1 ?_
   refine Lds [str (snam p)] hk33 ?_
   rintro h23 hp34
   have hk35 : Blk h23 r4_2 [.int .u8 (ftyp k), str (snam p), str (spre p), str (if 100 < tg.length then [] else tg), .int .i64 (m), .int .i64 0] := hp34.blk
   refine Ln ?_
   refine X_cut (u1) (tk6 6 4 3 2 1 7) ?_
   exact ⟨RowsO.congr ((ho1.only1 nsRec hp32.only (ntl q4_2.lt hp23.only.size)).only1 nsRec hp34.only (ntl q4_2.lt hp23.only.size)) (by rw [pr2, if_pos c2, List.append_nil]), (Only.trans (Only.trans (Only.refl _ _) hp32.only (fun _ hb_ => .inl (by simp only [List.mem_cons, List.not_mem_nil, or_false] at hb_ ⊢; simp [hb_]))) hp34.only (fun _ hb_ => .inl (by simp only [List.mem_cons, List.not_mem_nil, or_false] at hb_ ⊢; simp [hb_]))), hk35⟩
  refine Wg ?_
  refine Mv ?_
  refine Lf 1 ?_
  refine Lb Tryz.underlying9 (hk2.ext (me3.then' hoA hg7 (nt hn3.ext.size hx5.size))) ?_
  refine Ly (Yb (.agg #[str [112, 97, 116, 104], str p]) [0, 1] [.const (str [112, 97, 116, 104]), .tmp 52] [str [112, 97, 116, 104], str p]) ?_
  refine L_mks (M_litr (S := recS) (l := [⟨[112, 97, 116, 104], p⟩]) (cells := [str [112, 97, 116, 104], str p]) (pv := [(0, .agg #[str [112, 97, 116, 104], str p])]) (E := 139) (evp (is := [0]) (os := [.tmp 53]) (vs := [.agg #[str [112, 97, 116, 104], str p]]) rfl rfl) rfl rfl (fun _ => by kernel_rfl) (by simp only [List.mem_cons, List.not_mem_nil, or_false, forall_eq_or_imp, forall_eq]; exact trivial)) rfl rfl rfl ?_
  rintro v36 h24 ⟨ho37, hx38⟩
  refine L_mks (M_appr0 nsRec (z := 2) (bytes := 32) (z0 := (.agg #[str [], str []])) Tryz.underlying74 (by unfold elemRow; kernel_rfl) rfl rfl (by decide) rfl rfl (ho1.ext hx38) ho37.rows (nt hoA.size hx38.size) (by first | (simp only [List.length_cons, List.length_nil]; omega) | (simp; done) | (simp; omega))) rfl rfl rfl ?_
  rintro v39 h25 ha40
  refine Av ?_
  refine Ln ?_
  refine X_cut (v39) (tk6 6 4 3 2 1 7) ?_
  have hc41 := ((hbA.ext hx38).only ha40.only (fun hb_ => Nat.lt_irrefl _ (ntl (ntl q4_2.lt hp23.only.size) (ha40.ge _ hb_))))
  exact ⟨RowsO.congr ha40.own (by rw [pr2, if_neg (by simp [c2])]), (Only.trans (Only.trans (Only.refl _ _) hx38 (fun _ hb_ => by cases hb_)) ha40.only (fun _ hb_ => .inl (by first | exact hb_ | exact List.mem_append_right _ hb_ | simp [blockOf] at hb_))), by have sn := sok_nil c2; rw [sn.1, sn.2]; exact hc41⟩
 rintro u2 h26 ⟨ho2, hoB, hbB⟩
 show W _ _ _ _ _ [(6, .pointer (some ⟨r4_2, 0, none⟩)), (4, .int .i64 0), (3, .slice none 0 0), (2, .pointer (some ⟨h1.size, 0, none⟩)), (1, .pointer (some ⟨h.size, 0, none⟩)), (7, u2)] _
 have hR2 := pr2_len tg p
 have hge2 : ∀ b ∈ [r4_2] ++ (blockOf u2).toList, h3.size ≤ b := fun b hb => (List.mem_append.1 hb).elim (hg7 b) (fun hb => nt hgA (Own.lt ho2.1 b (by simpa using hb)).1)
 refine W_cut (S := Value) (fun u3 => [(6, .pointer (some ⟨r4_2, 0, none⟩)), (4, .int .i64 0), (3, .slice none 0 0), (2, .pointer (some ⟨h1.size, 0, none⟩)), (7, u3)]) (fun u3 h' => RowsO recS h' h17.size u3 (pr3 tg p z) ∧ Only ([r4_2] ++ (blockOf u2).toList) h26 h' ∧ Blk h' (r4_2) [.int .u8 (ftyp k), str (snam p), str (spre p), str (if 100 < tg.length then [] else tg), .int .i64 m, .int .i64 (if 8589934591 < z then 0 else z)]) ?_ ?_
 ·refine Wr ?_
  refine Lf 4 ?_
  have me4 := (me3.then' hoA hg7 (nt hn3.ext.size hx5.size)).then' hoB hge1 (nt hn3.ext.size hx5.size)
  refine Lb Tryz.underlying2 (hk2.ext me4) ?_
  refine Ly (Y_leq rfl rfl) ?_
  refine Nx ?_
  refine Sd (fun c3 => ?_) fun c3 => ?_
  ·refine Wg ?_
   refine Lf 4 ?_
   refine Lb Tryz.underlying2 (hk2.ext me4) ?_
   refine Lf 5 ?_
   refine Lds [.int .i64 (z)] hbB ?_
   rintro h27 hp42
   have hk43 : Blk h27 r4_2 [.int .u8 (ftyp k), str (snam p), str (spre p), str (if 100 < tg.length then [] else tg), .int .i64 (m), .int .i64 (z)] := hp42.blk
   refine Ln ?_
   refine X_cut (u2) (tk5 6 4 3 2 7) ?_
   exact ⟨RowsO.congr (ho2.only1 nsRec hp42.only (ntl q4_2.lt hp23.only.size)) (by rw [pr3, if_neg (by omega), List.append_nil]), (Only.trans (Only.refl _ _) hp42.only (fun _ hb_ => .inl (by simp only [List.mem_cons, List.not_mem_nil, or_false] at hb_ ⊢; simp [hb_]))), by rw [if_neg (show ¬ 8589934591 < z by omega)]; exact hk43⟩
  refine Wg ?_
  refine Mv ?_
  refine Lf 4 ?_
  refine Lb Tryz.underlying2 (hk2.ext me4) ?_
  refine Lc (ref09_Decimal _ z (by first | first | omega | (simp; done) | (simp; omega) | rfl | (simp <;> omega))) ?_
  rintro _ h28 ⟨rfl, hx44⟩
  refine Ly (Yb (.agg #[str [115, 105, 122, 101], str (Lib.decDigits z.toNat)]) [0, 1] [.const (str [115, 105, 122, 101]), .tmp 65] [str [115, 105, 122, 101], str (Lib.decDigits z.toNat)]) ?_
  refine L_mks (M_litr (S := recS) (l := [⟨[115, 105, 122, 101], Lib.decDigits z.toNat⟩]) (cells := [str [115, 105, 122, 101], str (Lib.decDigits z.toNat)]) (pv := [(0, .agg #[str [115, 105, 122, 101], str (Lib.decDigits z.toNat)])]) (E := 139) (evp (is := [0]) (os := [.tmp 66]) (vs := [.agg #[str [115, 105, 122, 101], str (Lib.decDigits z.toNat)]]) rfl rfl) rfl rfl (fun _ => by kernel_rfl) (by simp only [List.mem_cons, List.not_mem_nil, or_false, forall_eq_or_imp, forall_eq]; exact trivial)) rfl rfl rfl ?_
  rintro v45 h29 ⟨ho46, hx47⟩
  refine L_mks (M_appr0 nsRec (z := 2) (bytes := 32) (z0 := (.agg #[str [], str []])) Tryz.underlying74 (by unfold elemRow; kernel_rfl) rfl rfl (by decide) rfl rfl (ho2.ext (hx44.trans hx47)) ho46.rows (nt (nt (nt hoA.size hoB.size) hx44.size) hx47.size) (by first | (simp only [List.length_cons, List.length_nil]; omega) | (simp; done) | (simp; omega))) rfl rfl rfl ?_
  rintro v48 h30 ha49
  refine Av ?_
  refine Ln ?_
  refine X_cut (v48) (tk5 6 4 3 2 7) ?_
  have hc50 := (((hbB.ext hx44).ext hx47).only ha49.only (fun hb_ => Nat.lt_irrefl _ (ntl (ntl q4_2.lt hp23.only.size) (ha49.ge _ hb_))))
  exact ⟨RowsO.congr ha49.own (by rw [pr3, if_pos (by omega), itoa_pos (show (0 : Int) ≤ z by omega)]), (Only.trans (Only.trans (Only.trans (Only.refl _ _) hx44 (fun _ hb_ => by cases hb_)) hx47 (fun _ hb_ => by cases hb_)) ha49.only (fun _ hb_ => .inl (by first | exact hb_ | exact List.mem_append_right _ hb_ | simp [blockOf] at hb_))), by rw [if_pos (show 8589934591 < z by omega)]; exact hc50⟩
 rintro u3 h31 ⟨ho3, hoC, hbC⟩
 show W _ _ _ _ _ [(6, .pointer (some ⟨r4_2, 0, none⟩)), (4, .int .i64 0), (3, .slice none 0 0), (2, .pointer (some ⟨h1.size, 0, none⟩)), (7, u3)] _
 refine Wr ?_
 refine Lg Tryz.underlying82 hbC ?_
 refine Mv ?_
 have me5 := (hx5.trans hx22).then' hp23.only (by simp) (nt hx5.size q4_2l)
 have me6 := ((me5.then' hoA hg7 hx5.size).then' hoB hge1 hx5.size).then' hoC hge2 hx5.size
 refine Lds [.int .u8 (ftyp k), str (snam p), str (spre p), str (if 100 < tg.length then [] else tg), .int .i64 (m), .int .i64 ((if 8589934591 < z then 0 else z))] (hk4.ext me6) ?_
 rintro h32 hp51
 have hk52 : Blk h32 h1.size [.int .u8 (ftyp k), str (snam p), str (spre p), str (if 100 < tg.length then [] else tg), .int .i64 (m), .int .i64 ((if 8589934591 < z then 0 else z))] := hp51.blk
 refine A2 ?_
 refine Ln (Xt (Wt ?_))
 refine X_retv3 rfl (RVa Tryz.underlying82 hk52) rfl rfl ?_
 have me7 := (((hn1.ext.trans hn3.ext).trans hx5).trans hx22).then' hp23.only (by simp) (nt (nt (nt hn1.ext.size hn3.ext.size) hx5.size) q4_2l)
 have me8 := me7.then' hoA hg7 (nt (nt hn1.ext.size hn3.ext.size) hx5.size)
 have me9 := me8.then' hoB hge1 (nt (nt hn1.ext.size hn3.ext.size) hx5.size)
 have me10 := me9.then' hoC hge2 (nt (nt hn1.ext.size hn3.ext.size) hx5.size)
 refine ⟨u3, ?_, ?_, (me10.then' hp51.only (by simp) hn1.ext.size)⟩
 ·rw [e0, fT, fN, fP, fL, fM, fZ, if_pos rfl, if_pos rfl, if_pos rfl, if_pos rfl, if_pos rfl, if_pos rfl]
 have me11 := nt (nt (nt (nt hn1.ext.size hn3.ext.size) hx5.size) hx22.size) hp23.only.size
 rw [e0, fR, if_pos rfl]; exact RowsO.congr (((ho3.only1 nsRec hp51.only (ntl hk4.lt (nt (nt hx5.size hx22.size) hp23.only.size)))).low me11) pr3_recs
end Go.Xp
