/- Layer 13 (tree): the program's check, Check and Find. -/
import Derived.Test.YtknimfbagbkjfaaDoorTreeA
import Derived.Test.YtknimfbagbkjfaaDoorSlc
set_option linter.unusedSimpArgs false
set_option linter.unusedVariables false
set_option linter.unusedSectionVars false
namespace Go.Xp
open Go.Proofs

theorem nod_mem {l : List Nod} {k : Nat} (h : k < l.length) : at_nod l k ∈ l := by rw [nod_eq h]; exact List.getElem_mem h
theorem below_succ {f : Nat → Int} {i : Nat} (h0 : ∀ k, k < i → f k = 0) (h : f i = 0) : ∀ k, k < i + 1 → f k = 0 := fun k hk => by
  rcases Nat.lt_or_ge k i with h1 | h1
  · exact h0 k h1
  · obtain rfl : k = i := by omega
    exact h
theorem dirk_yes {l : List Nod} {i : Nat} (h : (at_nod l i).kind = 0) : kins (dirk l i) (at_nod l i).path = dirk l (i + 1) := (if_pos h).symm
theorem dirk_no {l : List Nod} {i : Nat} (h : ¬ (at_nod l i).kind = 0) : dirk l i = dirk l (i + 1) := (if_neg h).symm
section
variable {l : List Nod} {j : Nat}
theorem tog14 (u : (at_nod l j).path ∈ seenk l j) : ttog l j = 14 := by unfold ttog; rw [if_pos (seenk_dup.1 u)]
theorem tog13 (u : ¬ (at_nod l j).path ∈ seenk l j) (v : ¬ pparent (at_nod l j).path ∈ dirk l l.length) : ttog l j = 13 := by
  unfold ttog; rw [if_neg (fun e => u (seenk_dup.2 e)), if_pos (by rw [← Bool.not_eq_true]; exact fun e => v (dirk_fnd.2 e))]
theorem tog0 (u : ¬ (at_nod l j).path ∈ seenk l j) (v : pparent (at_nod l j).path ∈ dirk l l.length) (c : (at_nod l j).cls = 0) : ttog l j = 0 := by
  unfold ttog; rw [if_neg (fun e => u (seenk_dup.2 e)), if_neg (by rw [dirk_fnd.1 v]; decide), if_pos c]
theorem tog15 (u : ¬ (at_nod l j).path ∈ seenk l j) (v : pparent (at_nod l j).path ∈ dirk l l.length) (c : ¬ (at_nod l j).cls = 0)
    (q : ¬ (at_nod l (nfirst l (at_nod l j).cls)).mode = (at_nod l j).mode ∨ ¬ (at_nod l (nfirst l (at_nod l j).cls)).data = (at_nod l j).data) : ttog l j = 15 := by
  unfold ttog; rw [if_neg (fun e => u (seenk_dup.2 e)), if_neg (by rw [dirk_fnd.1 v]; decide), if_neg c, if_pos q]
theorem togok (u : ¬ (at_nod l j).path ∈ seenk l j) (v : pparent (at_nod l j).path ∈ dirk l l.length) (c : ¬ (at_nod l j).cls = 0)
    (q : ¬ (¬ (at_nod l (nfirst l (at_nod l j).cls)).mode = (at_nod l j).mode ∨ ¬ (at_nod l (nfirst l (at_nod l j).cls)).data = (at_nod l j).data)) : ttog l j = 0 := by
  unfold ttog; rw [if_neg (fun e => u (seenk_dup.2 e)), if_neg (by rw [dirk_fnd.1 v]; decide), if_neg c, if_neg q]
theorem tognew (u : ¬ (at_nod l j).path ∈ seenk l j) (v : pparent (at_nod l j).path ∈ dirk l l.length) (hj : j < l.length) (f1 : ¬ nfirst l (at_nod l j).cls < j) : ttog l j = 0 := by
  by_cases c : (at_nod l j).cls = 0
  · exact tog0 u v c
  · have h := nfirst_of hj
    have e : nfirst l (at_nod l j).cls = j := by omega
    exact togok u v c (by rw [e]; simp)
theorem fmap_zero (c : (at_nod l j).cls = 0) : fmap l j = fmap l (j + 1) := (if_pos c).symm
theorem fmap_old (c : ¬ (at_nod l j).cls = 0) (f1 : nfirst l (at_nod l j).cls < j) : fmap l j = fmap l (j + 1) := by
  show _ = if _ then _ else _
  rw [if_neg c, if_pos f1]
theorem fmap_new (c : ¬ (at_nod l j).cls = 0) (f1 : ¬ nfirst l (at_nod l j).cls < j) : mset (fmap l j) (at_nod l j).cls (nodv (at_nod l j)) = fmap l (j + 1) := by
  show _ = if _ then _ else _
  rw [if_neg c, if_neg f1]
end

set_option maxRecDepth 100000 in
theorem tree_check1 (h : Heap) (hK : GlbK h) (hE : GlbE h) (x : Nod) (hb : Bytes h x.dv x.data) (hp : x.path.length ≤ 140737488355328) (ht : x.target.length ≤ 140737488355328) (hd : x.data.length ≤ 140737488355328) : Cal Tryd.prog 44 #[.agg #[.int .i64 (x.kind), str x.path, .int .i64 (x.mode), str x.target, (x.dv), .int .i64 (x.cls)]] h (fun v h' => v = .int .i64 (tone x) ∧ Ext h h') := by
 refine Cal_enter (args := [.agg #[.int .i64 (x.kind), str x.path, .int .i64 (x.mode), str x.target, (x.dv), .int .i64 (x.cls)]]) Tryd.func44 rfl rfl rfl (fun σ => ?_)
 refine Wr ?_
 refine L_mks (M_box rfl) rfl rfl rfl ?_
 rintro _ h1 ⟨rfl, hn1⟩
 have hk2 : Blk h1 h.size [.int .i64 (x.kind), str x.path, .int .i64 (x.mode), str x.target, (x.dv), .int .i64 (x.cls)] := hn1.blk
 refine Av ?_
 refine Nx ?_
 refine W_sub _ (tk2 2 1) ?_
 refine W_seq ?_
 refine W_cut (S := Unit) (fun _ => [(18, .bool (decide (((¬ x.kind = 0) ∧ (¬ x.kind = 1)) ∧ (¬ x.kind = 2)))), (2, .int .i64 0), (1, .pointer (some ⟨h.size, 0, none⟩))]) (fun _ h' => h' = h1) ?_ ?_
 ·refine W_region ?_
  refine Ly (Y_fieldAddr (off := 0) (by kernel_rfl) rfl rfl) ?_
  refine Ly (Y_ldblk Tryd.underlying3 rfl rfl hk2 rfl) ?_
  refine Ly (Y_neq rfl rfl) ?_
  refine Mv ?_
  refine L_splitd (d := 9) rfl (fun c3 => ?_) (fun c3 => ?_)
  ·refine Ly (Y_fieldAddr (off := 0) (by kernel_rfl) rfl rfl) ?_
   refine Ly (Y_ldblk Tryd.underlying3 rfl rfl hk2 rfl) ?_
   refine Ly (Y_neq rfl rfl) ?_
   refine Ly (Y_pick_t rfl rfl) ?_
   refine Mv ?_
   refine L_splitd (d := 14) rfl (fun c4 => ?_) (fun c4 => ?_)
   ·refine Ly (Y_fieldAddr (off := 0) (by kernel_rfl) rfl rfl) ?_
    refine Ly (Y_ldblk Tryd.underlying3 rfl rfl hk2 rfl) ?_
    refine Ly (Y_neq rfl rfl) ?_
    refine Ly (Y_pick_t rfl rfl) ?_
    refine L_nil ?_
    exact X_cut () (sk1 18 (lkb rfl (by first | (simp only [eq_true c3, eq_true c4, SB]; done) | (simp only [eq_true c3, eq_true c4, SB]; rfl))) (sk1 2 rfl (tk1 1))) rfl
   refine Skp ?_
   refine Skp ?_
   refine Skp ?_
   refine Ly (Y_pick_f rfl rfl) ?_
   refine L_nil ?_
   exact X_cut () (sk1 18 (lkb rfl (by first | (simp only [eq_true c3, eq_false c4, SB]; done) | (simp only [eq_true c3, eq_false c4, SB]; rfl))) (sk1 2 rfl (tk1 1))) rfl
  refine Skp ?_
  refine Skp ?_
  refine Skp ?_
  refine Ly (Y_pick_f rfl rfl) ?_
  refine Mv ?_
  refine Skp ?_
  refine Skp ?_
  refine Skp ?_
  refine Ly (Y_pick_f rfl rfl) ?_
  refine L_nil ?_
  exact X_cut () (sk1 18 (lkb rfl (by first | (simp only [eq_false c3, SB]; done) | (simp only [eq_false c3, SB]; rfl))) (sk1 2 rfl (tk1 1))) rfl
 rintro _ h1 rfl
 show W _ _ _ _ _ [(18, .bool (decide (((¬ x.kind = 0) ∧ (¬ x.kind = 1)) ∧ (¬ x.kind = 2)))), (2, .int .i64 0), (1, .pointer (some ⟨h.size, 0, none⟩))] _
 refine W_splitd rfl (fun a => ?_) (fun a => ?_)
 ·refine Wr ?_
  refine Av ?_
  refine Nx ?_
  refine W_sub _ (tk2 2 1) ?_
  refine W_ret (X_then_ret ?_)
  refine X_ret1 rfl rfl ?_
  exact ⟨by unfold tone; rw [if_pos (by omega)], hn1.ext⟩
 refine Ws ?_
 refine W_sub _ (tk2 2 1) ?_
 have hk : ¬ (x.kind < 0 ∨ 2 < x.kind) := by omega
 refine Wr ?_
 refine Ly (Y_fieldAddr (off := 0) (by kernel_rfl) rfl rfl) ?_
 refine Ly (Y_ldblk Tryd.underlying3 rfl rfl hk2 rfl) ?_
 refine Ly (Y_eql rfl rfl) ?_
 refine Av ?_
 refine Nx ?_
 refine W_sub _ (tk3 3 2 1) ?_
 refine Wr ?_
 refine Ly (Y_fieldAddr (off := 0) (by kernel_rfl) rfl rfl) ?_
 refine Ly (Y_ldblk Tryd.underlying3 rfl rfl hk2 rfl) ?_
 refine Ly (Y_fieldAddr (off := 1) (by kernel_rfl) rfl rfl) ?_
 refine Ly (Y_ldblk Tryd.underlying9 rfl rfl hk2 rfl) ?_
 refine Ly (Y_fieldAddr (off := 2) (by kernel_rfl) rfl rfl) ?_
 refine Ly (Y_ldblk Tryd.underlying3 rfl rfl hk2 rfl) ?_
 refine Ly (Y_fieldAddr (off := 3) (by kernel_rfl) rfl rfl) ?_
 refine Ly (Y_ldblk Tryd.underlying9 rfl rfl hk2 rfl) ?_
 refine Ly (Y_build (v := .agg #[.int .i64 (x.kind), str x.path, .int .i64 (x.mode), str x.target, .int .i64 0]) (pv := [(0, .int .i64 (x.kind)), (1, str x.path), (2, .int .i64 (x.mode)), (3, str x.target)]) (evp (is := [0, 1, 2, 3]) (os := [.tmp 23, .tmp 25, .tmp 27, .tmp 29]) (vs := [.int .i64 (x.kind), str x.path, .int .i64 (x.mode), str x.target]) rfl rfl) (fun _ => by kernel_rfl)) ?_
 refine L_mks (M_alloc (u := .agg #[.int .i64 0, str [], .int .i64 0, str [], .int .i64 0]) (by kernel_rfl)) rfl rfl rfl ?_
 rintro _ h2 ⟨rfl, hn5⟩
 have hk6 : Blk h2 h1.size [.int .i64 0, str [], .int .i64 0, str [], .int .i64 0] := hn5.blk
 refine L_dos (D_store (us := [.int .i64 (x.kind), str x.path, .int .i64 (x.mode), str x.target, .int .i64 0]) (show _ = some 5 by kernel_rfl) rfl rfl rfl (by simp [Value.oneCell']) hk6 (by simp)) rfl rfl ?_
 rintro h3 hp7
 have hk8 : Blk h3 h1.size [.int .i64 (x.kind), str x.path, .int .i64 (x.mode), str x.target, .int .i64 0] := hp7.blk
 refine Nx ?_
 refine W_sub _ (tk4 4 3 2 1) ?_
 refine W_seq (W_seq (W_region ?_))
 refine Mv ?_
 refine Nx ?_
 refine W_splitd rfl (fun f => ?_) (fun f => ?_)
 ·refine W_region ?_
  refine Ly (Y_fieldAddr (off := 4) (by kernel_rfl) rfl rfl) ?_
  refine Ly (Y_ldblk Tryd.underlying28 rfl rfl (hk2.ext (hn5.ext.then' hp7.only (by simp) (Nat.le_refl _))) rfl) ?_
  have me1 := (hn1.ext.trans hn5.ext).then' hp7.only (by simp) hn1.ext.size
  refine Ly (Y_len Tryd.underlying28 rfl (hb.ext me1)) ?_
  refine Ly (Y_fieldAddr (off := 4) (by kernel_rfl) rfl rfl) ?_
  refine L_dos (D_store (us := [.int .i64 ((x.data.length : Int))]) (show _ = some 1 by kernel_rfl) rfl rfl rfl (by simp [Value.oneCell']) hk8 (by simp)) rfl rfl ?_
  rintro h4 hp9
  have hk10 : Blk h4 h1.size [.int .i64 (x.kind), str x.path, .int .i64 (x.mode), str x.target, .int .i64 ((x.data.length : Int))] := hp9.blk
  refine Nx ?_
  refine W_sub _ (tk4 4 3 2 1) ?_
  have hn : nfc x = fcheck x.kind x.path x.mode x.target (x.data.length : Int) := by unfold nfc nsize; rw [if_pos f]
  refine W_seq (W_seq (W_region ?_))
  refine Ly (Y_ldbox (us := [.int .i64 (x.kind), str x.path, .int .i64 (x.mode), str x.target, .int .i64 ((x.data.length : Int))]) Tryd.underlying27 rfl (show _ = some 5 by kernel_rfl) rfl hk10 rfl) ?_
  refine L_call (E_call (by kernel_rfl) rfl) (fit_Check _ (hK.ext (me1.then' hp9.only (by simp) hn1.ext.size)) (hE.ext (me1.then' hp9.only (by simp) hn1.ext.size)) x.kind x.path x.mode x.target (x.data.length : Int) (by first | omega | rfl | (simp <;> omega)) (by first | omega | rfl | (simp <;> omega))) rfl rfl rfl ?_
  rintro _ h5 ⟨rfl, hx11⟩
  refine Av ?_
  refine Nx ?_
  refine W_sub _ (tk4 5 3 2 1) ?_
  refine Wr ?_
  refine Mv ?_
  refine Ly (Y_neq rfl rfl) ?_
  refine Nx ?_
  refine W_sub _ (tk5 39 5 3 2 1) ?_
  refine W_splitd rfl (fun e => ?_) (fun e => ?_)
  ·refine Wr ?_
   refine Mv ?_
   refine Av ?_
   refine Nx ?_
   refine W_sub _ (tk3 2 3 1) ?_
   refine W_ret (X_then_ret ?_)
   refine X_ret1 rfl rfl ?_
   exact ⟨by unfold tone; rw [if_neg hk, hn, if_pos e], ((me1.then' hp9.only (by simp) hn1.ext.size).trans hx11)⟩
  refine Ws ?_
  refine W_sub _ (tk3 3 2 1) ?_
  refine W_seq (W_block (W_seq (W_region ?_)))
  refine Mv ?_
  refine Ly (Y_notd rfl) ?_
  refine Mv ?_
  refine L_known (d := 44) false rfl (by exact decide_eq_false (by exact fun h => h f)) ?_
  refine Skp ?_
  refine Skp ?_
  refine Skp ?_
  refine Skp ?_
  refine Ly (Y_pick_f rfl rfl) ?_
  refine Av ?_
  refine Nx ?_
  refine W_sub _ (tk4 41 3 2 1) ?_
  refine W_false rfl ?_
  refine Wr ?_
  refine Ly (Y_fieldAddr (off := 5) (by kernel_rfl) rfl rfl) ?_
  have me2 := (hn5.ext.then' hp7.only (by simp) (Nat.le_refl _)).then' hp9.only (by simp) (Nat.le_refl _)
  refine Ly (Y_ldblk Tryd.underlying3 rfl rfl (hk2.ext (me2.trans hx11)) rfl) ?_
  refine Ly (Y_lss rfl rfl) ?_
  refine Mv ?_
  refine L_splitd (d := 54) rfl (fun c => ?_) (fun c => ?_)
  ·refine Skp ?_
   refine Skp ?_
   refine Skp ?_
   refine Skp ?_
   refine Skp ?_
   refine Skp ?_
   refine Skp ?_
   refine Ly (Y_pick_t rfl rfl) ?_
   refine Av ?_
   refine Nx ?_
   refine W_sub _ (tk2 50 2) ?_
   refine W_true rfl ?_
   refine Wr ?_
   refine Av ?_
   refine Nx ?_
   refine W_sub _ (tk1 2) ?_
   refine W_ret (X_block_ret (X_then_ret ?_))
   refine X_ret1 rfl rfl ?_
   exact ⟨by unfold tone; rw [if_neg hk, hn, if_neg e, if_neg (fun e => e.1 f), if_pos (.inl c)], ((me1.then' hp9.only (by simp) hn1.ext.size).trans hx11)⟩
  refine Ly (Y_move rfl) ?_
  refine Ly (Y_notd rfl) ?_
  refine Mv ?_
  refine L_known (d := 57) false rfl (by exact decide_eq_false (by exact fun h => h f)) ?_
  refine Skp ?_
  refine Skp ?_
  refine Skp ?_
  refine Ly (Y_pick_f rfl rfl) ?_
  refine Ly (Y_pick_f rfl rfl) ?_
  refine Av ?_
  refine Nx ?_
  refine W_sub _ (tk2 50 2) ?_
  refine W_false rfl ?_
  refine W_skip (X_block (X_then ?_))
  refine W_sub _ (tk1 2) ?_
  refine Wr ?_
  refine Av ?_
  refine L_nil (X_then (W_ret ?_))
  refine X_ret1 rfl rfl ?_
  exact ⟨by unfold tone; rw [if_neg hk, hn, if_neg e, if_neg (fun e => e.1 f), if_neg (fun e => e.elim c (fun e => e.1 f))], ((me1.then' hp9.only (by simp) hn1.ext.size).trans hx11)⟩
 refine Ws ?_
 refine W_sub _ (tk4 4 3 2 1) ?_
 have hn : nfc x = fcheck x.kind x.path x.mode x.target 0 := by unfold nfc nsize; rw [if_neg f]
 refine W_seq (W_seq (W_region ?_))
 refine Ly (Y_ldbox (us := [.int .i64 (x.kind), str x.path, .int .i64 (x.mode), str x.target, .int .i64 0]) Tryd.underlying27 rfl (show _ = some 5 by kernel_rfl) rfl hk8 rfl) ?_
 have me3 := (hn1.ext.trans hn5.ext).then' hp7.only (by simp) hn1.ext.size
 refine L_call (E_call (by kernel_rfl) rfl) (fit_Check _ (hK.ext me3) (hE.ext me3) x.kind x.path x.mode x.target (0 : Int) (by first | omega | rfl | (simp <;> omega)) (by first | omega | rfl | (simp <;> omega))) rfl rfl rfl ?_
 rintro _ h6 ⟨rfl, hx12⟩
 refine Av ?_
 refine Nx ?_
 refine W_sub _ (tk4 5 3 2 1) ?_
 refine Wr ?_
 refine Mv ?_
 refine Ly (Y_neq rfl rfl) ?_
 refine Nx ?_
 refine W_sub _ (tk5 39 5 3 2 1) ?_
 refine W_splitd rfl (fun e => ?_) (fun e => ?_)
 ·refine Wr ?_
  refine Mv ?_
  refine Av ?_
  refine Nx ?_
  refine W_sub _ (tk3 2 3 1) ?_
  refine W_ret (X_then_ret ?_)
  refine X_ret1 rfl rfl ?_
  exact ⟨by unfold tone; rw [if_neg hk, hn, if_pos e], (me3.trans hx12)⟩
 refine Ws ?_
 refine W_sub _ (tk3 3 2 1) ?_
 refine W_seq (W_block (W_seq (W_region ?_)))
 refine Mv ?_
 refine Ly (Y_notd rfl) ?_
 refine Mv ?_
 refine L_known (d := 44) true rfl (by exact decide_eq_true (by exact f)) ?_
 refine Ly (Y_fieldAddr (off := 4) (by kernel_rfl) rfl rfl) ?_
 have me4 := (hn5.ext.then' hp7.only (by simp) (Nat.le_refl _)).trans hx12
 refine Ly (Y_ldblk Tryd.underlying28 rfl rfl (hk2.ext me4) rfl) ?_
 refine Ly (Y_len Tryd.underlying28 rfl (hb.ext (me3.trans hx12))) ?_
 refine Ly (Y_gtr rfl rfl) ?_
 refine Ly (Y_pick_t rfl rfl) ?_
 refine Av ?_
 refine Nx ?_
 refine W_sub _ (tk4 41 3 2 1) ?_
 refine W_splitd rfl (fun g => ?_) (fun g => ?_)
 ·refine Wr ?_
  refine Av ?_
  refine Nx ?_
  refine W_sub _ (tk1 2) ?_
  refine W_ret (X_block_ret (X_then_ret ?_))
  refine X_ret1 rfl rfl ?_
  exact ⟨by unfold tone; rw [if_neg hk, hn, if_neg e, if_pos ⟨f, by omega⟩], (me3.trans hx12)⟩
 refine Wr ?_
 refine Ly (Y_fieldAddr (off := 5) (by kernel_rfl) rfl rfl) ?_
 refine Ly (Y_ldblk Tryd.underlying3 rfl rfl (hk2.ext me4) rfl) ?_
 refine Ly (Y_lss rfl rfl) ?_
 refine Mv ?_
 refine L_splitd (d := 54) rfl (fun c => ?_) (fun c => ?_)
 ·refine Skp ?_
  refine Skp ?_
  refine Skp ?_
  refine Skp ?_
  refine Skp ?_
  refine Skp ?_
  refine Skp ?_
  refine Ly (Y_pick_t rfl rfl) ?_
  refine Av ?_
  refine Nx ?_
  refine W_sub _ (tk2 50 2) ?_
  refine W_true rfl ?_
  refine Wr ?_
  refine Av ?_
  refine Nx ?_
  refine W_sub _ (tk1 2) ?_
  refine W_ret (X_block_ret (X_then_ret ?_))
  refine X_ret1 rfl rfl ?_
  exact ⟨by unfold tone; rw [if_neg hk, hn, if_neg e, if_neg (fun e => by have := e.2; omega), if_pos (.inl c)], (me3.trans hx12)⟩
 refine Ly (Y_move rfl) ?_
 refine Ly (Y_notd rfl) ?_
 refine Mv ?_
 refine L_known (d := 57) true rfl (by exact decide_eq_true (by exact f)) ?_
 refine Ly (Y_fieldAddr (off := 5) (by kernel_rfl) rfl rfl) ?_
 refine Ly (Y_ldblk Tryd.underlying3 rfl rfl (hk2.ext me4) rfl) ?_
 refine Ly (Y_neq rfl rfl) ?_
 refine Ly (Y_pick_t rfl rfl) ?_
 refine Ly (Y_pick_f rfl rfl) ?_
 refine Av ?_
 refine Nx ?_
 refine W_sub _ (tk2 50 2) ?_
 refine W_splitd rfl (fun q => ?_) (fun q => ?_)
 ·refine Wr ?_
  refine Av ?_
  refine Nx ?_
  refine W_sub _ (tk1 2) ?_
  refine W_ret (X_block_ret (X_then_ret ?_))
  refine X_ret1 rfl rfl ?_
  exact ⟨by unfold tone; rw [if_neg hk, hn, if_neg e, if_neg (fun e => by have := e.2; omega), if_pos (.inr ⟨f, q⟩)], (me3.trans hx12)⟩
 refine W_skip (X_block (X_then ?_))
 refine W_sub _ (tk1 2) ?_
 refine Wr ?_
 refine Av ?_
 refine L_nil (X_then (W_ret ?_))
 refine X_ret1 rfl rfl ?_
 exact ⟨by unfold tone; rw [if_neg hk, hn, if_neg e, if_neg (fun e => by have := e.2; omega), if_neg (fun e => e.elim c (fun e => q e.2))], (me3.trans hx12)⟩

set_option maxRecDepth 100000 in
theorem tree_Check (h : Heap) (hK : GlbK h) (hE : GlbE h) (w : Value) (l : List Nod) (hl : Rows nodS h w l) (hn : l.length ≤ 140737488355328) (hs : ∀ x ∈ l, x.path.length ≤ 140737488355328 ∧ x.target.length ≤ 140737488355328 ∧ x.data.length ≤ 140737488355328) : Cal Tryd.prog 29 #[w] h (fun v h' => v = .tuple #[.int .i64 (tpos l), .int .i64 (terr l)] ∧ Ext h h') := by
 refine Cal_enter (args := [w]) Tryd.func29 rfl rfl rfl (fun σ => ?_)
 refine Wr ?_
 refine Av ?_
 refine Av ?_
 refine L_nil (X_then (W_seq (W_region ?_)))
 refine L_mks (M_makeMap (α := List UInt8) (fun l : List UInt8 => str l)) rfl rfl rfl ?_
 rintro _ h1 ⟨rfl, hx1, hb2⟩
 refine L_dos (D_insert keyS Tryd.underlying60 Tryd.underlying9 rfl rfl rfl hb2) rfl rfl ?_
 rintro h2 ⟨hx3, -, hb4⟩
 refine Mv ?_
 refine Av ?_
 refine Nx ?_
 refine W_sub _ (tk4 4 3 2 0) ?_
 refine W_seq (W_seq (W_region ?_))
 refine Mv ?_
 refine Ly (Y_lenr Tryd.underlying32 rfl (hl.ext (hx1.then' hx3 (by simp) (Nat.le_refl _)))) ?_
 refine Mv ?_
 refine L_nil (X_then (W_block ?_))
 refine W_loop (S := Nat) (fun i => [(17, .int .i64 ((l.length : Int))), (16, w), (4, .map (some h.size)), (0, w), (18, .int .i64 ((i : Int)))]) (fun i h' => (i ≤ l.length ∧ ∀ k, k < i → tone (at_nod l k) = 0) ∧ Only [h.size] h2 h' ∧ SetK h' h.size (dirk l i)) (fun i => l.length - i) 0 (tk5 17 16 4 0 18) ?_ ?_
 ·exact ⟨⟨by omega, fun k hk => absurd hk (Nat.not_lt_zero _)⟩, Only.refl _ _, hb4⟩
 rintro i h3 ⟨⟨hi, h0⟩, hx, hd1⟩
 show W _ _ _ _ _ [(17, .int .i64 ((l.length : Int))), (16, w), (4, .map (some h.size)), (0, w), (18, .int .i64 ((i : Int)))] _
 refine Wr ?_
 refine Ly (Y_lss rfl rfl) ?_
 refine L_nil (X_then (W_seq ?_))
 refine W_splitd rfl (fun hlt => ?_) (fun hlt => ?_)
 ·refine Ws ?_
  refine W_sub _ (tk5 17 16 4 0 18) ?_
  refine W_seq (W_block (W_seq (W_region ?_)))
  refine Mv ?_
  have me1 := (hx1.then' hx3 (by simp) (Nat.le_refl _)).then' hx (by simp) (Nat.le_refl _)
  refine Ly (Y_idxr Tryd.underlying32 (show _ = some 6 by kernel_rfl) rfl rfl rfl (hl.ext me1) (by omega) (by omega)) ?_
  refine Ly (Y_ldrA0 (k := ((i : Int)).toNat) (us := [.int .i64 ((at_nod l ((i : Int)).toNat).kind), str ((at_nod l ((i : Int)).toNat).path), .int .i64 ((at_nod l ((i : Int)).toNat).mode), str ((at_nod l ((i : Int)).toNat).target), ((at_nod l ((i : Int)).toNat).dv), .int .i64 ((at_nod l ((i : Int)).toNat).cls)]) Tryd.underlying48 rfl (show _ = some 6 by kernel_rfl) rfl rfl (hl.ext me1) (by omega) rfl) ?_
  refine L_mks (M_alloc (u := .agg #[.int .i64 0, str [], .int .i64 0, str [], .slice none 0 0, .int .i64 0]) (by kernel_rfl)) rfl rfl rfl ?_
  rintro _ h4 ⟨rfl, hn5⟩
  have hk6 : Blk h4 h3.size [.int .i64 0, str [], .int .i64 0, str [], .slice none 0 0, .int .i64 0] := hn5.blk
  refine Av ?_
  refine L_dos (D_store (us := [.int .i64 ((at_nod l ((i : Int)).toNat).kind), str ((at_nod l ((i : Int)).toNat).path), .int .i64 ((at_nod l ((i : Int)).toNat).mode), str ((at_nod l ((i : Int)).toNat).target), ((at_nod l ((i : Int)).toNat).dv), .int .i64 ((at_nod l ((i : Int)).toNat).cls)]) (show _ = some 6 by kernel_rfl) rfl rfl rfl (by intro u_ hu_; simp only [List.mem_cons, List.not_mem_nil, or_false] at hu_; rcases hu_ with rfl | rfl | rfl | rfl | rfl | rfl <;> first | rfl | exact ((show Bytes _ ((at_nod l ((i : Int)).toNat).dv) ((at_nod l ((i : Int)).toNat).data) from (hl.ext (me1.trans hn5.ext)).okat (k := ((i : Int)).toNat) (by omega))).cell1) hk6 (by simp)) rfl rfl ?_
  rintro h5 hp7
  have hk8 : Blk h5 h3.size [.int .i64 ((at_nod l ((i : Int)).toNat).kind), str ((at_nod l ((i : Int)).toNat).path), .int .i64 ((at_nod l ((i : Int)).toNat).mode), str ((at_nod l ((i : Int)).toNat).target), ((at_nod l ((i : Int)).toNat).dv), .int .i64 ((at_nod l ((i : Int)).toNat).cls)] := hp7.blk
  refine Nx ?_
  refine W_sub _ (tk7 5 6 17 16 4 0 18) ?_
  have hmm := hs _ (nod_mem (l := l) (k := (i : Int).toNat) (by omega))
  refine W_seq (W_seq (W_region ?_))
  refine Ly (Y_ldbox (us := [.int .i64 ((at_nod l ((i : Int)).toNat).kind), str ((at_nod l ((i : Int)).toNat).path), .int .i64 ((at_nod l ((i : Int)).toNat).mode), str ((at_nod l ((i : Int)).toNat).target), ((at_nod l ((i : Int)).toNat).dv), .int .i64 ((at_nod l ((i : Int)).toNat).cls)]) Tryd.underlying48 rfl (show _ = some 6 by kernel_rfl) rfl hk8 rfl) ?_
  have me2 := (me1.trans hn5.ext).then' hp7.only (by simp) (Nat.le_trans (Nat.le_trans hx1.size hx3.size) hx.size)
  refine L_call (E_call (by kernel_rfl) rfl) (tree_check1 _ (hK.ext me2) (hE.ext me2) (at_nod l ((i : Int)).toNat) (show Bytes _ ((at_nod l ((i : Int)).toNat).dv) ((at_nod l ((i : Int)).toNat).data) from (hl.ext me2).okat (k := ((i : Int)).toNat) (by omega)) (by first | omega | rfl | (simp <;> omega)) (by first | omega | rfl | (simp <;> omega)) (by first | omega | rfl | (simp <;> omega))) rfl rfl rfl ?_
  rintro _ h6 ⟨rfl, hx9⟩
  refine Av ?_
  refine Nx ?_
  refine W_sub _ (tk8 7 5 6 17 16 4 0 18) ?_
  refine Wr ?_
  refine Mv ?_
  refine Ly (Y_neq rfl rfl) ?_
  refine Nx ?_
  refine W_sub _ (sk1 26 rfl (tk8 7 5 6 17 16 4 0 18)) ?_
  refine W_splitd rfl (fun e => ?_) (fun e => ?_)
  ·refine Wr ?_
   refine Mv ?_
   refine Mv ?_
   refine Av ?_
   refine Av ?_
   refine Nx ?_
   refine W_sub _ (tk8 3 2 6 17 16 4 0 18) ?_
   refine W_ret (X_then_ret (X_block_ret (X_then_ret (X_then_ret (X_block_ret (X_then_ret ?_))))))
   refine X_ret2 rfl rfl rfl ?_
   have hr := tres1 (l := l) (i := i) h0 (by omega) e
   exact ⟨by rw [hr.1, hr.2]; rfl, (me2.trans hx9)⟩
  refine Ws ?_
  refine W_sub _ (tk6 6 17 16 4 0 18) ?_
  refine Wr ?_
  refine Ly (Y_fieldAddr (off := 0) (by kernel_rfl) rfl rfl) ?_
  refine Ly (Y_ldblk Tryd.underlying3 rfl rfl (hk8.ext hx9) rfl) ?_
  refine Ly (Y_eql rfl rfl) ?_
  refine Nx ?_
  refine W_sub _ (tk7 31 6 17 16 4 0 18) ?_
  refine W_splitd rfl (fun d => ?_) (fun d => ?_)
  ·refine W_region ?_
   refine Mv ?_
   refine Ly (Y_fieldAddr (off := 1) (by kernel_rfl) rfl rfl) ?_
   refine Ly (Y_ldblk Tryd.underlying9 rfl rfl (hk8.ext hx9) rfl) ?_
   have me3 := (hn5.ext.then' hp7.only (by simp) (Nat.le_refl _)).trans hx9
   refine L_dos (D_updset Tryd.underlying60 Tryd.underlying9 rfl rfl rfl (hd1.ext me3)) rfl rfl ?_
   rintro h7 ⟨hx10, -, hb11⟩
   refine L_nil (X_block (X_then ?_))
   refine W_sub _ (tk5 17 16 4 0 18) ?_
   refine W_region ?_
   refine Ly (Y_add rfl rfl (by omega) (by omega)) ?_
   refine Mv ?_
   refine L_nil ?_
   refine X_loop (i + 1) (tk5 17 16 4 0 18) ?_ ?_
   ·exact ⟨⟨by omega, below_succ (f := fun i => tone (at_nod l i)) h0 (Classical.not_not.1 e)⟩, (Only.trans (Only.trans (Only.trans (Only.trans (Only.trans (Only.refl _ _) hx (fun _ hb_ => .inl hb_)) hn5.ext (fun _ hb_ => by cases hb_)) hp7.only (fun b_ hb_ => .inr (by rw [List.mem_singleton.1 hb_]; exact hx.size))) hx9 (fun _ hb_ => by cases hb_)) hx10 (fun _ hb_ => .inl hb_)), SetK.congr hb11 (dirk_yes d)⟩
   (try dsimp only)
   omega
  refine W_skip (X_block (X_then ?_))
  refine W_sub _ (tk5 17 16 4 0 18) ?_
  refine W_region ?_
  refine Ly (Y_add rfl rfl (by omega) (by omega)) ?_
  refine Mv ?_
  refine L_nil ?_
  refine X_loop (i + 1) (tk5 17 16 4 0 18) ?_ ?_
  ·exact ⟨⟨by omega, below_succ (f := fun i => tone (at_nod l i)) h0 (Classical.not_not.1 e)⟩, (Only.trans (Only.trans (Only.trans (Only.trans (Only.refl _ _) hx (fun _ hb_ => .inl hb_)) hn5.ext (fun _ hb_ => by cases hb_)) hp7.only (fun b_ hb_ => .inr (by rw [List.mem_singleton.1 hb_]; exact hx.size))) hx9 (fun _ hb_ => by cases hb_)), SetK.congr (hd1.ext ((hn5.ext.then' hp7.only (by simp) (Nat.le_refl _)).trans hx9)) (dirk_no d)⟩
  (try dsimp only)
  omega
 refine W_exit ?_
 refine X_then_exit (X_then_exit ?_)
 refine X_block_hit ?_
 refine X_then ?_
 refine W_sub _ (tk2 4 0) ?_
 obtain rfl : i = l.length := by omega
 refine Wr ?_
 refine L_mks (M_makeMap (α := List UInt8) (fun l : List UInt8 => str l)) rfl rfl rfl ?_
 rintro _ h8 ⟨rfl, hx12, hb13⟩
 refine Av ?_
 refine Nx ?_
 refine W_sub _ (tk3 8 4 0) ?_
 refine Wr ?_
 refine L_mks (M_makeMap (α := Int) (fun z : Int => .int .i64 z)) rfl rfl rfl ?_
 rintro _ h9 ⟨rfl, hx14, hb15⟩
 refine Av ?_
 refine Nx ?_
 refine W_sub _ (tk4 9 8 4 0) ?_
 refine W_seq (W_seq (W_region ?_))
 refine Mv ?_
 have me4 := (hx1.then' hx3 (by simp) (Nat.le_refl _)).then' hx (by simp) (Nat.le_refl _)
 refine Ly (Y_lenr Tryd.underlying32 rfl (hl.ext ((me4.trans hx12).trans hx14))) ?_
 refine Mv ?_
 refine L_nil (X_then (W_block ?_))
 refine W_loop (S := Nat) (fun j => [(39, .int .i64 ((l.length : Int))), (38, w), (9, .map (some h8.size)), (8, .map (some h3.size)), (4, .map (some h.size)), (0, w), (40, .int .i64 ((j : Int)))]) (fun j h' => (j ≤ l.length ∧ ∀ k, k < j → ttog l k = 0) ∧ Ext h3 h' ∧ SetK h' h3.size (seenk l j) ∧ MapK (fun z : Int => .int .i64 z) h' h8.size (fmap l j)) (fun j => l.length - j) 0 (tk7 39 38 9 8 4 0 40) ?_ ?_
 ·exact ⟨⟨by omega, fun k hk => absurd hk (Nat.not_lt_zero _)⟩, (hx12.trans hx14), (hb13.ext hx14), hb15⟩
 rintro j h10 ⟨⟨hj, g0⟩, hx2, hs1, hm1⟩
 show W _ _ _ _ _ [(39, .int .i64 ((l.length : Int))), (38, w), (9, .map (some h8.size)), (8, .map (some h3.size)), (4, .map (some h.size)), (0, w), (40, .int .i64 ((j : Int)))] _
 refine Wr ?_
 refine Ly (Y_lss rfl rfl) ?_
 refine L_nil (X_then (W_seq ?_))
 refine W_splitd rfl (fun hlt2 => ?_) (fun hlt2 => ?_)
 ·refine Ws ?_
  refine W_sub _ (tk7 39 38 9 8 4 0 40) ?_
  refine W_seq (W_block (W_seq (W_region ?_)))
  refine Mv ?_
  refine Ly (Y_idxr Tryd.underlying32 (show _ = some 6 by kernel_rfl) rfl rfl rfl (hl.ext (me4.trans hx2)) (by omega) (by omega)) ?_
  refine Ly (Y_ldrA0 (k := ((j : Int)).toNat) (us := [.int .i64 ((at_nod l ((j : Int)).toNat).kind), str ((at_nod l ((j : Int)).toNat).path), .int .i64 ((at_nod l ((j : Int)).toNat).mode), str ((at_nod l ((j : Int)).toNat).target), ((at_nod l ((j : Int)).toNat).dv), .int .i64 ((at_nod l ((j : Int)).toNat).cls)]) Tryd.underlying48 rfl (show _ = some 6 by kernel_rfl) rfl rfl (hl.ext (me4.trans hx2)) (by omega) rfl) ?_
  refine L_mks (M_alloc (u := .agg #[.int .i64 0, str [], .int .i64 0, str [], .slice none 0 0, .int .i64 0]) (by kernel_rfl)) rfl rfl rfl ?_
  rintro _ h11 ⟨rfl, hn16⟩
  have hk17 : Blk h11 h10.size [.int .i64 0, str [], .int .i64 0, str [], .slice none 0 0, .int .i64 0] := hn16.blk
  refine Av ?_
  refine L_dos (D_store (us := [.int .i64 ((at_nod l ((j : Int)).toNat).kind), str ((at_nod l ((j : Int)).toNat).path), .int .i64 ((at_nod l ((j : Int)).toNat).mode), str ((at_nod l ((j : Int)).toNat).target), ((at_nod l ((j : Int)).toNat).dv), .int .i64 ((at_nod l ((j : Int)).toNat).cls)]) (show _ = some 6 by kernel_rfl) rfl rfl rfl (by intro u_ hu_; simp only [List.mem_cons, List.not_mem_nil, or_false] at hu_; rcases hu_ with rfl | rfl | rfl | rfl | rfl | rfl <;> first | rfl | exact ((show Bytes _ ((at_nod l ((j : Int)).toNat).dv) ((at_nod l ((j : Int)).toNat).data) from (hl.ext ((me4.trans hx2).trans hn16.ext)).okat (k := ((j : Int)).toNat) (by omega))).cell1) hk17 (by simp)) rfl rfl ?_
  rintro h12 hp18
  have hk19 : Blk h12 h10.size [.int .i64 ((at_nod l ((j : Int)).toNat).kind), str ((at_nod l ((j : Int)).toNat).path), .int .i64 ((at_nod l ((j : Int)).toNat).mode), str ((at_nod l ((j : Int)).toNat).target), ((at_nod l ((j : Int)).toNat).dv), .int .i64 ((at_nod l ((j : Int)).toNat).cls)] := hp18.blk
  refine Nx ?_
  refine W_sub _ (sk1 10 rfl (tk8 11 39 38 9 8 4 0 40)) ?_
  have hmm := hs _ (nod_mem (l := l) (k := (j : Int).toNat) (by omega))
  refine W_seq (W_block (W_seq (W_region ?_)))
  refine Mv ?_
  refine Ly (Y_fieldAddr (off := 1) (by kernel_rfl) rfl rfl) ?_
  refine Ly (Y_ldblk Tryd.underlying9 rfl rfl hk19 rfl) ?_
  refine Ly (Y_lookset Tryd.underlying60 Tryd.underlying9 (by kernel_rfl) rfl rfl (hs1.ext (hn16.ext.then' hp18.only (by simp) (Nat.le_refl _)))) ?_
  refine Av ?_
  refine Nx ?_
  refine W_sub _ (sk2 45 10 rfl rfl (tk8 11 39 38 9 8 4 0 40)) ?_
  refine W_splitd rfl (fun u => ?_) (fun u => ?_)
  ·refine Wr ?_
   refine Mv ?_
   refine Av ?_
   refine Av ?_
   refine Nx ?_
   refine W_sub _ (sk3 3 2 10 rfl rfl rfl (tk8 11 39 38 9 8 4 0 40)) ?_
   refine W_ret (X_block_ret (X_then_ret (X_block_ret (X_then_ret (X_then_ret (X_block_ret (X_then_ret ?_)))))))
   refine X_ret2 rfl rfl rfl ?_
   have hr := tres2 h0 g0 (by omega) (by rw [tog14 u]; decide)
   have me5 := Nat.le_trans (Nat.le_trans (Nat.le_trans hx1.size hx3.size) hx.size) hx2.size
   have me6 := ((me4.trans hx2).trans hn16.ext).then' hp18.only (by simp) me5
   exact ⟨by rw [hr.1, hr.2, tog14 u], me6⟩
  refine Wr ?_
  refine Mv ?_
  refine Ly (Y_fieldAddr (off := 1) (by kernel_rfl) rfl rfl) ?_
  refine Ly (Y_ldblk Tryd.underlying9 rfl rfl hk19 rfl) ?_
  refine L_call (E_call (by kernel_rfl) rfl) (pathname_Parent _ ((at_nod l ((j : Int)).toNat).path) (by first | omega | rfl | (simp <;> omega))) rfl rfl rfl ?_
  rintro _ h12 ⟨rfl, rfl⟩
  refine Ly (Y_lookset Tryd.underlying60 Tryd.underlying9 (by kernel_rfl) rfl rfl (hd1.ext ((hx2.trans hn16.ext).then' hp18.only (by simp) hx2.size))) ?_
  refine Ly (Y_notd rfl) ?_
  refine Av ?_
  refine Nx ?_
  refine W_sub _ (sk2 51 10 rfl rfl (tk8 11 39 38 9 8 4 0 40)) ?_
  refine W_splitd rfl (fun v => ?_) (fun v => ?_)
  ·refine Wr ?_
   refine Mv ?_
   refine Av ?_
   refine Av ?_
   refine Nx ?_
   refine W_sub _ (sk3 3 2 10 rfl rfl rfl (tk8 11 39 38 9 8 4 0 40)) ?_
   refine W_ret (X_block_ret (X_then_ret (X_block_ret (X_then_ret (X_then_ret (X_block_ret (X_then_ret ?_)))))))
   refine X_ret2 rfl rfl rfl ?_
   have hr := tres2 h0 g0 (by omega) (by rw [tog13 u v]; decide)
   have me7 := Nat.le_trans (Nat.le_trans (Nat.le_trans hx1.size hx3.size) hx.size) hx2.size
   have me8 := ((me4.trans hx2).trans hn16.ext).then' hp18.only (by simp) me7
   exact ⟨by rw [hr.1, hr.2, tog13 u v], me8⟩
  refine W_skip (X_block (X_then ?_))
  refine W_sub _ (sk1 10 rfl (tk8 11 39 38 9 8 4 0 40)) ?_
  refine Wr ?_
  refine Mv ?_
  refine Ly (Y_fieldAddr (off := 1) (by kernel_rfl) rfl rfl) ?_
  refine Ly (Y_ldblk Tryd.underlying9 rfl rfl hk19 rfl) ?_
  refine L_dos (D_updset Tryd.underlying60 Tryd.underlying9 rfl rfl rfl (hs1.ext (hn16.ext.then' hp18.only (by simp) (Nat.le_refl _)))) rfl rfl ?_
  rintro h13 ⟨hx20, -, hb21⟩
  refine Nx ?_
  refine W_sub _ (sk1 10 rfl (tk8 11 39 38 9 8 4 0 40)) ?_
  refine W_seq (W_seq (W_region ?_))
  refine Ly (Y_fieldAddr (off := 5) (by kernel_rfl) rfl rfl) ?_
  have hc22 := (hk19.only hx20 (ni_gt (Nat.lt_of_lt_of_le hs1.lt (Nat.le_refl _))))
  refine Ly (Y_ldblk Tryd.underlying3 rfl rfl hc22 rfl) ?_
  refine Ly (Y_eql rfl rfl) ?_
  refine Nx ?_
  refine W_sub _ (sk2 64 10 rfl rfl (tk8 11 39 38 9 8 4 0 40)) ?_
  refine W_splitd rfl (fun c => ?_) (fun c => ?_)
  ·refine W_exit ?_
   refine X_then_exit ?_
   refine X_block_hit ?_
   refine X_then ?_
   refine W_sub _ (tk7 39 38 9 8 4 0 40) ?_
   refine W_region ?_
   refine Ly (Y_add rfl rfl (by omega) (by omega)) ?_
   refine Mv ?_
   refine L_nil ?_
   refine X_loop (j + 1) (tk7 39 38 9 8 4 0 40) ?_ ?_
   have hc23 := (((hm1.ext hn16.ext).only hp18.only (ni_lt (Nat.lt_of_lt_of_le hm1.lt (Nat.le_refl _)))).only hx20 (ni_gt (Nat.lt_of_lt_of_le hb13.lt (Nat.le_refl _))))
   have me9 := ((hx2.trans hn16.ext).then' hp18.only (by simp) hx2.size).then' hx20 (by simp) (Nat.le_refl _)
   ·exact ⟨⟨by omega, below_succ g0 (tog0 u (Classical.not_not.1 v) c)⟩, me9, hb21, MapK.congr hc23 (fmap_zero c)⟩
   (try dsimp only)
   omega
  refine Ws ?_
  refine W_sub _ (sk1 10 rfl (tk8 11 39 38 9 8 4 0 40)) ?_
  refine W_seq ?_
  by_cases f1 : nfirst l (at_nod l j).cls < j
  ·have me10 := Nat.le_trans (Nat.le_trans (Nat.le_trans hx1.size hx3.size) hx.size) hx2.size
   have me11 := ((me4.trans hx2).trans hn16.ext).then' hp18.only (by simp) me10
   have me12 := me11.then' hx20 (by simp) (Nat.le_trans (Nat.le_trans hx1.size hx3.size) hx.size)
   have hok : Bytes h13 (at_nod l (nfirst l (at_nod l j).cls)).dv (at_nod l (nfirst l (at_nod l j).cls)).data := (hl.ext me12).okat (k := nfirst l (at_nod l j).cls) (by omega)
   have hmf := hs _ (nod_mem (l := l) (k := nfirst l (at_nod l j).cls) (by omega))
   refine W_region ?_
   refine Mv ?_
   refine Ly (Y_fieldAddr (off := 5) (by kernel_rfl) rfl rfl) ?_
   refine Ly (Y_ldblk Tryd.underlying3 rfl rfl hc22 rfl) ?_
   have hg24 : mget (fmap l j) ((at_nod l ((j : Int)).toNat).cls) = some (.agg #[.int .i64 ((at_nod l (nfirst l (at_nod l j).cls)).kind), str ((at_nod l (nfirst l (at_nod l j).cls)).path), .int .i64 ((at_nod l (nfirst l (at_nod l j).cls)).mode), str ((at_nod l (nfirst l (at_nod l j).cls)).target), ((at_nod l (nfirst l (at_nod l j).cls)).dv), .int .i64 ((at_nod l (nfirst l (at_nod l j).cls)).cls)]) := by exact (mget_fmap c (i := j) (by omega)).trans (if_pos f1)
   have hc25 := (((hm1.ext hn16.ext).only hp18.only (ni_lt (Nat.lt_of_lt_of_le hm1.lt (Nat.le_refl _)))).only hx20 (ni_gt (Nat.lt_of_lt_of_le hb13.lt (Nat.le_refl _))))
   refine Ly (Y_look2s keyI Tryd.underlying76 Tryd.underlying3 (u := (.agg #[.int .i64 0, str [], .int .i64 0, str [], .slice none 0 0, .int .i64 0])) (by kernel_rfl) rfl rfl hc25 hg24) ?_
   refine Mv ?_
   refine Ly (Y_extract (v := .agg #[.int .i64 ((at_nod l (nfirst l (at_nod l j).cls)).kind), str ((at_nod l (nfirst l (at_nod l j).cls)).path), .int .i64 ((at_nod l (nfirst l (at_nod l j).cls)).mode), str ((at_nod l (nfirst l (at_nod l j).cls)).target), ((at_nod l (nfirst l (at_nod l j).cls)).dv), .int .i64 ((at_nod l (nfirst l (at_nod l j).cls)).cls)]) rfl rfl) ?_
   refine Ly (Y_extract (v := .bool true) rfl rfl) ?_
   refine L_mks (M_alloc (u := .agg #[.int .i64 0, str [], .int .i64 0, str [], .slice none 0 0, .int .i64 0]) (by kernel_rfl)) rfl rfl rfl ?_
   rintro _ h14 ⟨rfl, hn26⟩
   have hk27 : Blk h14 h13.size [.int .i64 0, str [], .int .i64 0, str [], .slice none 0 0, .int .i64 0] := hn26.blk
   refine L_dos (D_store (us := [.int .i64 ((at_nod l (nfirst l (at_nod l j).cls)).kind), str ((at_nod l (nfirst l (at_nod l j).cls)).path), .int .i64 ((at_nod l (nfirst l (at_nod l j).cls)).mode), str ((at_nod l (nfirst l (at_nod l j).cls)).target), ((at_nod l (nfirst l (at_nod l j).cls)).dv), .int .i64 ((at_nod l (nfirst l (at_nod l j).cls)).cls)]) (show _ = some 6 by kernel_rfl) rfl rfl rfl (by intro u_ hu_; simp only [List.mem_cons, List.not_mem_nil, or_false] at hu_; rcases hu_ with rfl | rfl | rfl | rfl | rfl | rfl <;> first | rfl | exact ((hok.ext hn26.ext)).cell1) hk27 (by simp)) rfl rfl ?_
   rintro h15 hp28
   have hk29 : Blk h15 h13.size [.int .i64 ((at_nod l (nfirst l (at_nod l j).cls)).kind), str ((at_nod l (nfirst l (at_nod l j).cls)).path), .int .i64 ((at_nod l (nfirst l (at_nod l j).cls)).mode), str ((at_nod l (nfirst l (at_nod l j).cls)).target), ((at_nod l (nfirst l (at_nod l j).cls)).dv), .int .i64 ((at_nod l (nfirst l (at_nod l j).cls)).cls)] := hp28.blk
   refine Av ?_
   refine Nx ?_
   refine W_sub _ (sk3 13 12 10 rfl rfl rfl (tk8 11 39 38 9 8 4 0 40)) ?_
   refine W_seq (W_seq (W_region ?_))
   refine Mv ?_
   refine Ly (Y_not rfl) ?_
   refine Nx ?_
   refine W_sub _ (sk3 73 12 10 rfl rfl rfl (tk8 11 39 38 9 8 4 0 40)) ?_
   refine W_false rfl ?_
   refine Ws ?_
   refine W_sub _ (sk2 12 10 rfl rfl (tk8 11 39 38 9 8 4 0 40)) ?_
   refine W_cut (S := Unit) (fun _ => [(90, .bool (decide ((¬ ((at_nod l (nfirst l (at_nod l j).cls)).mode) = ((at_nod l ((j : Int)).toNat).mode)) ∨ (¬ (((at_nod l (nfirst l (at_nod l j).cls)).data) = ((at_nod l ((j : Int)).toNat).data)))))), (10, .int .i64 ((j : Int))), (39, .int .i64 ((l.length : Int))), (38, w), (9, .map (some h8.size)), (8, .map (some h3.size)), (4, .map (some h.size)), (0, w), (40, .int .i64 ((j : Int)))]) (fun _ h' => h' = h15) ?_ ?_
   ·refine W_region ?_
    refine Ly (Y_fieldAddr (off := 2) (by kernel_rfl) rfl rfl) ?_
    refine Ly (Y_ldblk Tryd.underlying3 rfl rfl hk29 rfl) ?_
    refine Ly (Y_fieldAddr (off := 2) (by kernel_rfl) rfl rfl) ?_
    refine Ly (Y_ldblk Tryd.underlying3 rfl rfl (hc22.ext (hn26.ext.then' hp28.only (by simp) (Nat.le_refl _))) rfl) ?_
    refine Ly (Y_neq rfl rfl) ?_
    refine Mv ?_
    refine L_splitd (d := 83) rfl (fun c30 => ?_) (fun c30 => ?_)
    ·refine Skp ?_
     refine Skp ?_
     refine Skp ?_
     refine Skp ?_
     refine Skp ?_
     refine Skp ?_
     refine Ly (Y_pick_t rfl rfl) ?_
     refine L_nil ?_
     exact X_cut () (sk1 90 (lkb rfl (by first | (simp only [eq_true c30, SB]; done) | (simp only [eq_true c30, SB]; rfl))) (sk1 10 rfl (sk1 39 rfl (sk1 38 rfl (sk1 9 rfl (sk1 8 rfl (sk1 4 rfl (sk1 0 rfl (tk1 40))))))))) rfl
    refine Ly (Y_fieldAddr (off := 4) (by kernel_rfl) rfl rfl) ?_
    refine Ly (Y_ldblk Tryd.underlying28 rfl rfl hk29 rfl) ?_
    refine Ly (Y_fieldAddr (off := 4) (by kernel_rfl) rfl rfl) ?_
    refine Ly (Y_ldblk Tryd.underlying28 rfl rfl (hc22.ext (hn26.ext.then' hp28.only (by simp) (Nat.le_refl _))) rfl) ?_
    have me13 := Nat.le_trans (Nat.le_trans me10 hn16.ext.size) hp18.only.size
    have me14 := (me12.trans hn26.ext).then' hp28.only (by simp) (Nat.le_trans me13 hx20.size)
    refine L_call (E_call (by kernel_rfl) rfl) (slices_EqualB _ ((at_nod l (nfirst l (at_nod l j).cls)).dv) ((at_nod l (nfirst l (at_nod l j).cls)).data) (hok.ext (hn26.ext.then' hp28.only (by simp) (Nat.le_refl _))) ((at_nod l ((j : Int)).toNat).dv) ((at_nod l ((j : Int)).toNat).data) (show Bytes _ ((at_nod l ((j : Int)).toNat).dv) ((at_nod l ((j : Int)).toNat).data) from (hl.ext me14).okat (k := ((j : Int)).toNat) (by omega)) (by first | omega | rfl | (simp <;> omega))) rfl rfl rfl ?_
    rintro _ h15 ⟨rfl, rfl⟩
    refine Ly (Y_notd rfl) ?_
    refine Ly (Y_pick_f rfl rfl) ?_
    refine L_nil ?_
    exact X_cut () (sk1 90 (lkb rfl (by first | (simp only [eq_false c30, SB]; done) | (simp only [eq_false c30, SB]; rfl))) (sk1 10 rfl (sk1 39 rfl (sk1 38 rfl (sk1 9 rfl (sk1 8 rfl (sk1 4 rfl (sk1 0 rfl (tk1 40))))))))) rfl
   rintro _ h15 rfl
   show W _ _ _ _ _ [(90, .bool (decide ((¬ ((at_nod l (nfirst l (at_nod l j).cls)).mode) = ((at_nod l ((j : Int)).toNat).mode)) ∨ (¬ (((at_nod l (nfirst l (at_nod l j).cls)).data) = ((at_nod l ((j : Int)).toNat).data)))))), (10, .int .i64 ((j : Int))), (39, .int .i64 ((l.length : Int))), (38, w), (9, .map (some h8.size)), (8, .map (some h3.size)), (4, .map (some h.size)), (0, w), (40, .int .i64 ((j : Int)))] _
   refine W_splitd rfl (fun q => ?_) (fun q => ?_)
   ·refine Wr ?_
    refine Mv ?_
    refine Av ?_
    refine Av ?_
    refine Nx ?_
    refine W_sub _ (sk1 3 rfl (tk8 2 39 38 9 8 4 0 40)) ?_
    refine W_ret (X_block_ret (X_then_ret (X_then_ret (X_block_ret (X_then_ret ?_)))))
    refine X_ret2 rfl rfl rfl ?_
    have hr := tres2 h0 g0 (by omega) (by rw [tog15 u (Classical.not_not.1 v) c q]; decide)
    have me15 := Nat.le_trans (Nat.le_trans me10 hn16.ext.size) hp18.only.size
    have me16 := (me12.trans hn26.ext).then' hp28.only (by simp) (Nat.le_trans me15 hx20.size)
    exact ⟨by rw [hr.1, hr.2, tog15 u (Classical.not_not.1 v) c q], me16⟩
   refine W_skip (X_block (X_then ?_))
   refine W_sub _ (tk7 39 38 9 8 4 0 40) ?_
   refine W_region ?_
   refine Ly (Y_add rfl rfl (by omega) (by omega)) ?_
   refine Mv ?_
   refine L_nil ?_
   refine X_loop (j + 1) (tk7 39 38 9 8 4 0 40) ?_ ?_
   ·exact ⟨⟨by omega, below_succ g0 (togok u (Classical.not_not.1 v) c q)⟩, (((((hx2.trans hn16.ext).then' hp18.only (by simp) hx2.size).then' hx20 (by simp) (Nat.le_refl _)).trans hn26.ext).then' hp28.only (by simp) (Nat.le_trans (Nat.le_trans (Nat.le_trans hx2.size hn16.ext.size) hp18.only.size) hx20.size)), (hb21.ext (hn26.ext.then' hp28.only (by simp) (Nat.le_refl _))), MapK.congr (hc25.ext (hn26.ext.then' hp28.only (by simp) (Nat.le_refl _))) (fmap_old c f1)⟩
   (try dsimp only)
   omega
  refine W_region ?_
  refine Mv ?_
  refine Ly (Y_fieldAddr (off := 5) (by kernel_rfl) rfl rfl) ?_
  refine Ly (Y_ldblk Tryd.underlying3 rfl rfl hc22 rfl) ?_
  have hg31 : mget (fmap l j) ((at_nod l ((j : Int)).toNat).cls) = none := by exact (mget_fmap c (i := j) (by omega)).trans (if_neg f1)
  have hc32 := (((hm1.ext hn16.ext).only hp18.only (ni_lt (Nat.lt_of_lt_of_le hm1.lt (Nat.le_refl _)))).only hx20 (ni_gt (Nat.lt_of_lt_of_le hb13.lt (Nat.le_refl _))))
  refine Ly (Y_look2n keyI Tryd.underlying76 Tryd.underlying3 (u := (.agg #[.int .i64 0, str [], .int .i64 0, str [], .slice none 0 0, .int .i64 0])) (by kernel_rfl) rfl rfl hc32 hg31) ?_
  refine Mv ?_
  refine Ly (Y_extract (v := .agg #[.int .i64 0, str [], .int .i64 0, str [], .slice none 0 0, .int .i64 0]) rfl rfl) ?_
  refine Ly (Y_extract (v := .bool false) rfl rfl) ?_
  refine L_mks (M_alloc (u := .agg #[.int .i64 0, str [], .int .i64 0, str [], .slice none 0 0, .int .i64 0]) (by kernel_rfl)) rfl rfl rfl ?_
  rintro _ h16 ⟨rfl, hn33⟩
  have hk34 : Blk h16 h13.size [.int .i64 0, str [], .int .i64 0, str [], .slice none 0 0, .int .i64 0] := hn33.blk
  refine L_dos (D_store (us := [.int .i64 0, str [], .int .i64 0, str [], .slice none 0 0, .int .i64 0]) (show _ = some 6 by kernel_rfl) rfl rfl rfl (by simp [Value.oneCell']) hk34 (by simp)) rfl rfl ?_
  rintro h17 hp35
  have hk36 : Blk h17 h13.size [.int .i64 0, str [], .int .i64 0, str [], .slice none 0 0, .int .i64 0] := hp35.blk
  refine Av ?_
  refine Nx ?_
  refine W_sub _ (sk3 13 12 10 rfl rfl rfl (tk8 11 39 38 9 8 4 0 40)) ?_
  refine W_seq (W_seq (W_region ?_))
  refine Mv ?_
  refine Ly (Y_not rfl) ?_
  refine Nx ?_
  refine W_sub _ (sk3 73 12 10 rfl rfl rfl (tk8 11 39 38 9 8 4 0 40)) ?_
  refine W_true rfl ?_
  refine Wr ?_
  refine Mv ?_
  refine Ly (Y_fieldAddr (off := 5) (by kernel_rfl) rfl rfl) ?_
  refine Ly (Y_ldblk Tryd.underlying3 rfl rfl (hc22.ext (hn33.ext.then' hp35.only (by simp) (Nat.le_refl _))) rfl) ?_
  refine Ly (Y_ldbox (us := [.int .i64 ((at_nod l ((j : Int)).toNat).kind), str ((at_nod l ((j : Int)).toNat).path), .int .i64 ((at_nod l ((j : Int)).toNat).mode), str ((at_nod l ((j : Int)).toNat).target), ((at_nod l ((j : Int)).toNat).dv), .int .i64 ((at_nod l ((j : Int)).toNat).cls)]) Tryd.underlying48 rfl (show _ = some 6 by kernel_rfl) rfl (hc22.ext (hn33.ext.then' hp35.only (by simp) (Nat.le_refl _))) rfl) ?_
  refine L_dos (D_update keyI Tryd.underlying76 Tryd.underlying3 rfl rfl rfl (hc32.ext (hn33.ext.then' hp35.only (by simp) (Nat.le_refl _)))) rfl rfl ?_
  rintro h18 ⟨hx37, -, hb38⟩
  refine Nx ?_
  refine W_sub _ (sk2 12 10 rfl rfl (tk8 11 39 38 9 8 4 0 40)) ?_
  refine W_exit ?_
  refine X_then_exit ?_
  refine X_block_hit ?_
  refine X_then ?_
  refine W_sub _ (tk7 39 38 9 8 4 0 40) ?_
  refine W_region ?_
  refine Ly (Y_add rfl rfl (by omega) (by omega)) ?_
  refine Mv ?_
  refine L_nil ?_
  refine X_loop (j + 1) (tk7 39 38 9 8 4 0 40) ?_ ?_
  have hc39 := (((hb21.ext hn33.ext).only hp35.only (ni_lt (Nat.lt_of_lt_of_le hs1.lt (Nat.le_trans (Nat.le_trans hn16.ext.size hp18.only.size) hx20.size)))).only hx37 (ni_lt (Nat.lt_of_lt_of_le hb13.lt (Nat.le_refl _))))
  have me17 := Nat.le_trans (Nat.le_trans hx2.size hn16.ext.size) hp18.only.size
  have me18 := ((hx2.trans hn16.ext).then' hp18.only (by simp) hx2.size).then' hx20 (by simp) (Nat.le_refl _)
  have me19 := (me18.trans hn33.ext).then' hp35.only (by simp) (Nat.le_trans me17 hx20.size)
  ·exact ⟨⟨by omega, below_succ g0 (tognew u (Classical.not_not.1 v) (by omega) f1)⟩, (me19.then' hx37 (by simp) hx12.size), hc39, MapK.congr hb38 (fmap_new c f1)⟩
  (try dsimp only)
  omega
 refine W_exit ?_
 refine X_then_exit (X_then_exit ?_)
 refine X_block_hit ?_
 refine X_then ?_
 refine W_sub _ (tk1 0) ?_
 refine Wr ?_
 refine Mv ?_
 refine Ly (Y_lenr Tryd.underlying32 rfl (hl.ext (me4.trans hx2))) ?_
 refine Av ?_
 refine Av ?_
 refine Nx ?_
 refine W_sub _ (tk2 3 2) ?_
 refine W_ret ?_
 refine X_ret2 rfl rfl rfl ?_
 have hr := tres0 h0 (fun k hk => g0 k (by omega))
 exact ⟨by rw [hr.1, hr.2], (me4.trans hx2)⟩

end Go.Xp
