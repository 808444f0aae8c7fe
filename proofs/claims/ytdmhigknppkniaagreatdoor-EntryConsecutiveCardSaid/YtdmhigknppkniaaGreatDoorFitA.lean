/- Layer 10 (fit): the reference, and the laws' helpers. -/
import Derived.Test.YtdmhigknppkniaaGreatDoorFit
import Derived.Test.YtdmhigknppkniaaGreatDoorUstE
set_option linter.unusedSimpArgs false
set_option linter.unusedVariables false
set_option linter.unusedSectionVars false
set_option maxRecDepth 100000
namespace Go.Xp
open Go.Proofs

theorem law10_TooLarge (h : Heap) (k : Int) (p : List UInt8) (m : Int) (tg : List UInt8) (z : Int) (hp : p.length ≤ 140737488355328) (ht : tg.length ≤ 140737488355328) : Cal Tryz.prog 15 #[.agg #[.int .i64 (k), str p, .int .i64 (m), str tg, .int .i64 (z)]] h (fun v h' => v = .int .i64 ((if 70000 < p.length + tg.length then 1 else 0 : Int)) ∧ Ext h h') := by
 refine Ce Tryz.func15 fun σ => ?_
 refine Wr ?_
 refine L_mks (M_box rfl) rfl rfl rfl ?_
 rintro _ h1 ⟨rfl, hn1⟩
 have hk2 : Blk h1 h.size [.int .i64 (k), str p, .int .i64 (m), str tg, .int .i64 (z)] := hn1.blk
 refine Av ?_
 refine Ln (Xt (Wq (Wq (Wg ?_))))
 refine Lf 1 ?_
 refine Lb Tryz.underlying9 hk2 ?_
 refine Ly (Y_slen Tryz.underlying9 rfl) ?_
 refine Lf 3 ?_
 refine Lb Tryz.underlying9 hk2 ?_
 refine Ly (Y_slen Tryz.underlying9 rfl) ?_
 refine Lad ?_
 refine Ly (Y_gtr rfl rfl) ?_
 refine Nx ?_
 refine Wu _ (tk2 10 2) ?_
 refine Sd (fun a => ?_) fun a => ?_
 ·refine Wa ?_
  refine Ln (Xt (Wt (Xr ?_)))
  refine Xv1 ?_
  exact ⟨by rw [if_pos (by omega)], hn1.ext⟩
 refine Wk (Xt (Wq (Wg ?_)))
 refine Av ?_
 refine Ln (Xt (Wt ?_))
 refine Xv1 ?_
 exact ⟨by rw [if_neg (by omega)], hn1.ext⟩
theorem rec_ext {a b : List Rec} (hl : a.length = b.length) (h : ∀ k, k < a.length → at_rec a k = at_rec b k) : a = b := by
  apply List.ext_getElem hl
  intro i h1 h2
  have := h i h1
  rw [at_rec_eq h1, at_rec_eq h2] at this
  exact this

theorem rec_eq {a b : Rec} (h : a.key = b.key ∧ a.val = b.val) : a = b := by cases a; cases b; cases h.1; cases h.2; rfl
theorem slices_EqualR (h : Heap) (v : Value) (a : List Rec) (ha : Rows recS h v a) (u : Value) (b : List Rec) (hb : Rows recS h u b) (hl0 : a.length ≤ 140737488355328) : Cal Tryz.prog 63 #[v, u] h (fun v h' => v = .bool (decide (a = b)) ∧ h' = h) := by
 refine Ce Tryz.func63 fun σ => ?_
 refine Wa ?_
 refine Ln (Xt (Wq (Wq (Wg ?_))))
 refine Mv ?_
 refine Ly (Y_lenr Tryz.underlying74 rfl ha) ?_
 refine Mv ?_
 refine Ly (Y_lenr Tryz.underlying74 rfl hb) ?_
 refine Ly Yne ?_
 refine Nx ?_
 refine Sd (fun c => ?_) fun c => ?_
 ·refine Wa ?_
  refine Ln (Xt (Wt (Xr ?_)))
  refine Xv1 ?_
  exact ⟨by rw [decide_eq_false (fun e => c (by rw [e]))], rfl⟩
 refine Ws ?_
 have hlen : a.length = b.length := by omega
 refine Wq (Wq (Wg ?_))
 refine Mv ?_
 refine Ly (Y_lenr Tryz.underlying74 rfl ha) ?_
 refine Mv ?_
 refine Nx ?_
 refine Wu _ (tk5 13 12 4 0 1) ?_
 refine Wb ?_
 refine W_loop (S := Nat) (fun i => [(12, .int .i64 ((a.length : Int))), (0, v), (1, u), (13, .int .i64 ((i : Int)))]) (fun i h' => i ≤ a.length ∧ (∀ k, k < i → at_rec a k = at_rec b k) ∧ h' = h) (fun i => a.length - i) 0 (tk4 12 0 1 13) ?_ ?_
 ·exact ⟨Nat.zero_le _, (fun _ hk => absurd hk (Nat.not_lt_zero _)), rfl⟩
 rintro i h ⟨hi, hip, rfl⟩
 show W _ _ _ _ _ [(12, .int .i64 ((a.length : Int))), (0, v), (1, u), (13, .int .i64 ((i : Int)))] _
 refine Wr ?_
 refine Ly Yls ?_
 refine Ln (Xt (Wq ?_))
 refine Sd (fun hl => ?_) fun hl => ?_
 ·refine Wk (Xt (Wq (Wb (Wq (Wg ?_)))))
  refine Mv ?_
  refine Av ?_
  refine Ln (Xt (Wq ?_))
  refine W_quiet (fun h' => h' = h) (by kernel_rfl) (by kernel_rfl) rfl ?_
  refine Qm ?_
  refine Qm ?_
  refine Qy (Y_idxr Tryz.underlying74 (show _ = some 2 by kernel_rfl) rfl rfl rfl ha (by omega) (by omega)) ?_
  refine Qy (Y_ldrA0 (k := ((i : Int)).toNat) (us := [str ((at_rec a ((i : Int)).toNat).key), str ((at_rec a ((i : Int)).toNat).val)]) Tryz.underlying139 rfl (show _ = some 2 by kernel_rfl) rfl rfl ha (by omega) rfl) ?_
  refine Qm ?_
  refine Qm ?_
  refine Qy (Y_idxr Tryz.underlying74 (show _ = some 2 by kernel_rfl) rfl rfl rfl hb (by omega) (by omega)) ?_
  refine Qy (Y_ldrA0 (k := ((i : Int)).toNat) (us := [str ((at_rec b ((i : Int)).toNat).key), str ((at_rec b ((i : Int)).toNat).val)]) Tryz.underlying139 rfl (show _ = some 2 by kernel_rfl) rfl rfl hb (by omega) rfl) ?_
  refine Qy (Y_decneg (Y_stneq (xs := [str ((at_rec a ((i : Int)).toNat).key), str ((at_rec a ((i : Int)).toNat).val)]) (ys := [str ((at_rec b ((i : Int)).toNat).key), str ((at_rec b ((i : Int)).toNat).val)]) (r := decide (((at_rec a ((i : Int)).toNat).key) = ((at_rec b ((i : Int)).toNat).key) ∧ ((at_rec a ((i : Int)).toNat).val) = ((at_rec b ((i : Int)).toNat).val))) (by kernel_rfl) (by kernel_rfl) (by kernel_rfl) rfl rfl (steq (ks := [.s, .s]) (by kernel_rfl) (by simp [eqks, eqk])))) ?_
  refine LQ_nil ?_
  rintro h rfl
  refine Xt ?_
  refine Wu _ (tk5 24 12 0 1 13) ?_
  refine Sd (fun hne => ?_) fun hne => ?_
  ·refine Wa ?_
   refine Ln (Xt (Wt (Yr (Xr (Xr (Yr (Xr ?_)))))))
   refine Xv1 ?_
   exact ⟨by rw [decide_eq_false (fun e => hne ⟨by rw [e], by rw [e]⟩)], rfl⟩
  refine Wk (Xb (Xt (Wg ?_)))
  refine Lad ?_
  refine Mv ?_
  refine Ln ?_
  refine X_loop (i + 1) (tk4 12 0 1 13) ?_ ?_
  ·exact ⟨by omega, (step_ne hip (by have h9 := Classical.not_not.1 hne; rw [Int.toNat_natCast] at h9; exact rec_eq h9)), rfl⟩
  (try dsimp only)
  omega
 refine W_exit ?_
 refine Xe (Xe ?_)
 refine X_block_hit ?_
 refine Xt (Wq (Wg ?_))
 refine Av ?_
 refine Ln (Xt (Wt ?_))
 refine Xv1 ?_
 exact ⟨by rw [decide_eq_true (rec_ext hlen (fun k hk => hip k (by omega)))], rfl⟩

theorem sok_nil {p : List UInt8} (h : sok p = false) : snam p = [] ∧ spre p = [] := by
  unfold sok at h
  simp only [Bool.or_eq_false_iff, decide_eq_false_iff_not, Bool.not_eq_false'] at h
  unfold snam spre
  exact ⟨by rw [if_neg h.1, if_pos h.2], by rw [if_neg h.1, if_pos h.2]⟩
end Go.Xp

/- Layer 10 (fit): the chapter's example. -/
namespace Go.Xp
open Go.Proofs

end Go.Xp
