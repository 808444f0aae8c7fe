/- Layer 13 (tree): the laws' helpers, and the law that Check and Find match the reference. -/
import Derived.Test.YtknimfbagbkjfaaDoorTreeR
set_option linter.unusedSimpArgs false
set_option linter.unusedVariables false
set_option linter.unusedSectionVars false
namespace Go.Xp
open Go.Proofs

def nb (x : Nod) : Nat := x.path.length + x.target.length + x.data.length
def nsumk (l : List Nod) : Nat → Nat
  | 0 => 0
  | i + 1 => nsumk l i + nb (at_nod l i)
def ntoo (l : List Nod) : Int := if 40 < l.length then 1 else if ((List.range l.length).any fun k => decide (70000 < nb (at_nod l k))) = true then 1 else if 100000 < nsumk l l.length then 1 else 0
theorem ntoo_big {l : List Nod} {i : Nat} (h1 : ¬ 40 < l.length) (hi : i < l.length) (h : 70000 < nb (at_nod l i)) : ntoo l = 1 := by
  unfold ntoo; rw [if_neg h1, if_pos (List.any_eq_true.2 ⟨i, List.mem_range.2 hi, decide_eq_true h⟩)]
theorem ntoo_end {l : List Nod} (h1 : ¬ 40 < l.length) (h : ∀ k, k < l.length → nb (at_nod l k) ≤ 70000) : ntoo l = if 100000 < nsumk l l.length then 1 else 0 := by
  unfold ntoo; rw [if_neg h1, if_neg]
  rw [List.any_eq_true]
  rintro ⟨k, hk, e⟩
  have := h k (List.mem_range.1 hk)
  have := of_decide_eq_true e
  omega
theorem nsumk_le {l : List Nod} : ∀ {i : Nat}, (∀ k, k < i → nb (at_nod l k) ≤ 70000) → nsumk l i ≤ 70000 * i
  | 0, _ => Nat.le_refl _
  | i + 1, h => by
    have := nsumk_le (l := l) (i := i) (fun k hk => h k (by omega))
    have := h i (by omega)
    show nsumk l i + _ ≤ _
    omega
theorem ntoo_ok {l : List Nod} (h : ¬ 0 < ntoo l) : l.length ≤ 40 ∧ ∀ k, k < l.length → nb (at_nod l k) ≤ 70000 := by
  unfold ntoo at h
  split at h
  · exact absurd (by decide) h
  · split at h
    · exact absurd (by decide) h
    · rename_i h1 h2
      refine ⟨by omega, fun k hk => ?_⟩
      apply Decidable.byContradiction; intro h9
      exact h2 (List.any_eq_true.2 ⟨k, List.mem_range.2 hk, decide_eq_true (by omega)⟩)
set_option maxRecDepth 100000 in
theorem law13_TooLarge (h : Heap) (w : Value) (l : List Nod) (hl : Rows nodS h w l) (hn : l.length ≤ 140737488355328) (hs : ∀ x ∈ l, x.path.length ≤ 140737488355328 ∧ x.target.length ≤ 140737488355328 ∧ x.data.length ≤ 140737488355328) : Cal Tryd.prog 23 #[w] h (fun v h' => v = .int .i64 (ntoo l) ∧ Ext h h') := by
 refine Cal_enter (args := [w]) Tryd.func23 rfl rfl rfl (fun σ => ?_)
 refine Wr ?_
 refine Av ?_
 refine L_nil (X_then (W_seq (W_seq (W_region ?_))))
 refine Mv ?_
 refine Ly (Y_lenr Tryd.underlying32 rfl hl) ?_
 refine Ly (Y_gtr rfl rfl) ?_
 refine Nx ?_
 refine W_sub _ (tk3 8 2 0) ?_
 refine W_splitd rfl (fun c => ?_) (fun c => ?_)
 ·refine Wr ?_
  refine Av ?_
  refine Nx ?_
  refine W_sub _ (tk2 2 0) ?_
  refine W_ret (X_then_ret ?_)
  refine X_ret1 rfl rfl ?_
  exact ⟨by unfold ntoo; rw [if_pos (by omega)], (Ext.refl _)⟩
 refine Ws ?_
 refine W_sub _ (tk2 2 0) ?_
 refine Wr ?_
 refine Av ?_
 refine L_nil (X_then (W_seq (W_seq (W_region ?_))))
 refine Mv ?_
 refine Ly (Y_lenr Tryd.underlying32 rfl hl) ?_
 refine Mv ?_
 refine Nx ?_
 refine W_sub _ (tk5 11 10 9 3 2) ?_
 refine W_block ?_
 refine W_loop (S := Nat) (fun i => [(10, .int .i64 ((l.length : Int))), (9, w), (3, .int .i64 ((nsumk l i : Int))), (11, .int .i64 ((i : Int)))]) (fun i h' => (i ≤ l.length ∧ ∀ k, k < i → nb (at_nod l k) ≤ 70000) ∧ Ext h h') (fun i => l.length - i) 0 (sk2 10 9 rfl rfl (sk1 3 (lki rfl (by rfl)) (tk1 11))) ?_ ?_
 ·exact ⟨⟨by omega, fun k hk => absurd hk (Nat.not_lt_zero _)⟩, Ext.refl _⟩
 rintro i h1 ⟨⟨hi, h0⟩, hxa⟩
 show W _ _ _ _ _ [(10, .int .i64 ((l.length : Int))), (9, w), (3, .int .i64 ((nsumk l i : Int))), (11, .int .i64 ((i : Int)))] _
 refine Wr ?_
 refine Ly (Y_lss rfl rfl) ?_
 refine L_nil (X_then (W_seq ?_))
 refine W_splitd rfl (fun hlt => ?_) (fun hlt => ?_)
 ·refine Ws ?_
  refine W_sub _ (tk4 10 9 3 11) ?_
  refine W_seq (W_block (W_seq (W_region ?_)))
  refine Ly (Y_idxr Tryd.underlying32 (show _ = some 6 by kernel_rfl) rfl rfl rfl (hl.ext hxa) (by omega) (by omega)) ?_
  refine Ly (Y_ldrA0 (k := ((i : Int)).toNat) (us := [.int .i64 ((at_nod l ((i : Int)).toNat).kind), str ((at_nod l ((i : Int)).toNat).path), .int .i64 ((at_nod l ((i : Int)).toNat).mode), str ((at_nod l ((i : Int)).toNat).target), ((at_nod l ((i : Int)).toNat).dv), .int .i64 ((at_nod l ((i : Int)).toNat).cls)]) Tryd.underlying48 rfl (show _ = some 6 by kernel_rfl) rfl rfl (hl.ext hxa) (by omega) rfl) ?_
  refine L_mks (M_alloc (u := .agg #[.int .i64 0, str [], .int .i64 0, str [], .slice none 0 0, .int .i64 0]) (by kernel_rfl)) rfl rfl rfl ?_
  rintro _ h2 ⟨rfl, hn1⟩
  have hk2 : Blk h2 h1.size [.int .i64 0, str [], .int .i64 0, str [], .slice none 0 0, .int .i64 0] := hn1.blk
  refine L_dos (D_store (us := [.int .i64 ((at_nod l ((i : Int)).toNat).kind), str ((at_nod l ((i : Int)).toNat).path), .int .i64 ((at_nod l ((i : Int)).toNat).mode), str ((at_nod l ((i : Int)).toNat).target), ((at_nod l ((i : Int)).toNat).dv), .int .i64 ((at_nod l ((i : Int)).toNat).cls)]) (show _ = some 6 by kernel_rfl) rfl rfl rfl (by intro u_ hu_; simp only [List.mem_cons, List.not_mem_nil, or_false] at hu_; rcases hu_ with rfl | rfl | rfl | rfl | rfl | rfl <;> first | rfl | exact ((show Bytes _ ((at_nod l ((i : Int)).toNat).dv) ((at_nod l ((i : Int)).toNat).data) from (hl.ext (hxa.trans hn1.ext)).okat (k := ((i : Int)).toNat) (by omega))).cell1) hk2 (by simp)) rfl rfl ?_
  rintro h3 hp3
  have hk4 : Blk h3 h1.size [.int .i64 ((at_nod l ((i : Int)).toNat).kind), str ((at_nod l ((i : Int)).toNat).path), .int .i64 ((at_nod l ((i : Int)).toNat).mode), str ((at_nod l ((i : Int)).toNat).target), ((at_nod l ((i : Int)).toNat).dv), .int .i64 ((at_nod l ((i : Int)).toNat).cls)] := hp3.blk
  refine Nx ?_
  refine W_sub _ (tk5 5 10 9 3 11) ?_
  have hmm := hs _ (nod_mem (l := l) (k := (i : Int).toNat) (by omega))
  have hsm := nsumk_le h0
  have hst : nsumk l (i + 1) = nsumk l i + nb (at_nod l i) := rfl
  have hnb : nb (at_nod l i) = (at_nod l (i : Int).toNat).path.length + (at_nod l (i : Int).toNat).target.length + (at_nod l (i : Int).toNat).data.length := rfl
  refine W_seq (W_seq (W_region ?_))
  refine Ly (Y_fieldAddr (off := 1) (by kernel_rfl) rfl rfl) ?_
  refine Ly (Y_ldblk Tryd.underlying9 rfl rfl hk4 rfl) ?_
  refine Ly (Y_slen Tryd.underlying9 rfl) ?_
  refine Ly (Y_fieldAddr (off := 3) (by kernel_rfl) rfl rfl) ?_
  refine Ly (Y_ldblk Tryd.underlying9 rfl rfl hk4 rfl) ?_
  refine Ly (Y_slen Tryd.underlying9 rfl) ?_
  refine Ly (Y_add rfl rfl (by omega) (by omega)) ?_
  refine Ly (Y_fieldAddr (off := 4) (by kernel_rfl) rfl rfl) ?_
  refine Ly (Y_ldblk Tryd.underlying28 rfl rfl hk4 rfl) ?_
  refine Ly (Y_len Tryd.underlying28 rfl (show Bytes _ ((at_nod l ((i : Int)).toNat).dv) ((at_nod l ((i : Int)).toNat).data) from (hl.ext ((hxa.trans hn1.ext).then' hp3.only (by simp) hxa.size)).okat (k := ((i : Int)).toNat) (by omega))) ?_
  refine Ly (Y_add rfl rfl (by omega) (by omega)) ?_
  refine Ly (Y_gtr rfl rfl) ?_
  refine Nx ?_
  refine W_sub _ (tk6 26 5 10 9 3 11) ?_
  refine W_splitd rfl (fun g => ?_) (fun g => ?_)
  ·refine Wr ?_
   refine Av ?_
   refine Nx ?_
   refine W_sub _ (tk6 2 5 10 9 3 11) ?_
   refine W_ret (X_then_ret (X_block_ret (X_then_ret (X_then_ret (X_block_ret (X_then_ret ?_))))))
   refine X_ret1 rfl rfl ?_
   exact ⟨by rw [ntoo_big (i := i) (by omega) (by omega) (by omega)], ((hxa.trans hn1.ext).then' hp3.only (by simp) hxa.size)⟩
  refine Ws ?_
  refine W_sub _ (tk5 5 10 9 3 11) ?_
  refine W_region ?_
  refine Mv ?_
  refine Ly (Y_fieldAddr (off := 1) (by kernel_rfl) rfl rfl) ?_
  refine Ly (Y_ldblk Tryd.underlying9 rfl rfl hk4 rfl) ?_
  refine Ly (Y_slen Tryd.underlying9 rfl) ?_
  refine Ly (Y_fieldAddr (off := 3) (by kernel_rfl) rfl rfl) ?_
  refine Ly (Y_ldblk Tryd.underlying9 rfl rfl hk4 rfl) ?_
  refine Ly (Y_slen Tryd.underlying9 rfl) ?_
  refine Ly (Y_add rfl rfl (by omega) (by omega)) ?_
  refine Ly (Y_fieldAddr (off := 4) (by kernel_rfl) rfl rfl) ?_
  refine Ly (Y_ldblk Tryd.underlying28 rfl rfl hk4 rfl) ?_
  refine Ly (Y_len Tryd.underlying28 rfl (show Bytes _ ((at_nod l ((i : Int)).toNat).dv) ((at_nod l ((i : Int)).toNat).data) from (hl.ext ((hxa.trans hn1.ext).then' hp3.only (by simp) hxa.size)).okat (k := ((i : Int)).toNat) (by omega))) ?_
  refine Ly (Y_add rfl rfl (by omega) (by omega)) ?_
  refine Ly (Y_add rfl rfl (by omega) (by omega)) ?_
  refine Av ?_
  refine L_nil (X_block (X_then ?_))
  refine W_sub _ (tk4 3 10 9 11) ?_
  refine W_region ?_
  refine Ly (Y_add rfl rfl (by omega) (by omega)) ?_
  refine Mv ?_
  refine L_nil ?_
  refine X_loop (i + 1) (sk2 10 9 rfl rfl (sk1 3 (lki rfl (by omega)) (tk1 11))) ?_ ?_
  ·exact ⟨⟨by omega, step_ne h0 (by omega)⟩, ((hxa.trans hn1.ext).then' hp3.only (by simp) hxa.size)⟩
  (try dsimp only)
  omega
 refine W_exit ?_
 refine X_then_exit (X_then_exit ?_)
 refine X_block_hit ?_
 refine X_then ?_
 refine W_sub _ (tk1 3) ?_
 obtain rfl : i = l.length := by omega
 refine W_seq (W_seq (W_region ?_))
 refine Mv ?_
 refine Ly (Y_gtr rfl rfl) ?_
 refine Nx ?_
 refine W_sub _ (tk1 42) ?_
 refine W_splitd rfl (fun q => ?_) (fun q => ?_)
 ·refine Wr ?_
  refine Av ?_
  refine Nx ?_
  refine W_sub _ (tk1 2) ?_
  refine W_ret (X_then_ret ?_)
  refine X_ret1 rfl rfl ?_
  exact ⟨by rw [ntoo_end (by omega) h0, if_pos (by omega)], hxa⟩
 refine Ws ?_
 refine W_sub _ sN ?_
 refine Wr ?_
 refine Av ?_
 refine L_nil (X_then (W_ret ?_))
 refine X_ret1 rfl rfl ?_
 exact ⟨by rw [ntoo_end (by omega) h0, if_neg (by omega)], hxa⟩
end Go.Xp
