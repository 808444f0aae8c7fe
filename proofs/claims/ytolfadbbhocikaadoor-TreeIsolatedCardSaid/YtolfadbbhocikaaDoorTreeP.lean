/- Layer 13 (tree): the program's check, Check and Find. -/
import Derived.Test.YtolfadbbhocikaaDoorTreeA
import Derived.Test.YtolfadbbhocikaaDoorSlc
set_option linter.unusedSimpArgs false
set_option linter.unusedVariables false
set_option linter.unusedSectionVars false
namespace Go.Xp
open Go.Proofs

theorem nod_mem {l : List Nod} {k : Nat} (h : k < l.length) : at_nod l k ∈ l := by rw [nod_eq h]; exact List.getElem_mem h
theorem below_succ {f : Nat → Int} {i : Nat} (h0 : ∀ k, k < i → f k = 0) (h : f i = 0) : ∀ k, k < i + 1 → f k = 0 := fun k hk => by
  rcases Nat.lt_or_ge k i with h1 | h1
  · exact h0 k h1
  · obtain rfl : k = i := by omega
    exact h
theorem dirk_yes {l : List Nod} {i : Nat} (h : (at_nod l i).kind = 0) : kins (dirk l i) (at_nod l i).path = dirk l (i + 1) := (if_pos h).symm
theorem dirk_no {l : List Nod} {i : Nat} (h : ¬ (at_nod l i).kind = 0) : dirk l i = dirk l (i + 1) := (if_neg h).symm
section
variable {l : List Nod} {j : Nat}
theorem tog14 (u : (at_nod l j).path ∈ seenk l j) : ttog l j = 14 := by unfold ttog; rw [if_pos (seenk_dup.1 u)]
theorem tog13 (u : ¬ (at_nod l j).path ∈ seenk l j) (v : ¬ pparent (at_nod l j).path ∈ dirk l l.length) : ttog l j = 13 := by
  unfold ttog; rw [if_neg (fun e => u (seenk_dup.2 e)), if_pos (by rw [← Bool.not_eq_true]; exact fun e => v (dirk_fnd.2 e))]
theorem tog0 (u : ¬ (at_nod l j).path ∈ seenk l j) (v : pparent (at_nod l j).path ∈ dirk l l.length) (c : (at_nod l j).cls = 0) : ttog l j = 0 := by
  unfold ttog; rw [if_neg (fun e => u (seenk_dup.2 e)), if_neg (by rw [dirk_fnd.1 v]; decide), if_pos c]
theorem tog15 (u : ¬ (at_nod l j).path ∈ seenk l j) (v : pparent (at_nod l j).path ∈ dirk l l.length) (c : ¬ (at_nod l j).cls = 0)
    (q : ¬ (at_nod l (nfirst l (at_nod l j).cls)).mode = (at_nod l j).mode ∨ ¬ (at_nod l (nfirst l (at_nod l j).cls)).data = (at_nod l j).data) : ttog l j = 15 := by
  unfold ttog; rw [if_neg (fun e => u (seenk_dup.2 e)), if_neg (by rw [dirk_fnd.1 v]; decide), if_neg c, if_pos q]
theorem togok (u : ¬ (at_nod l j).path ∈ seenk l j) (v : pparent (at_nod l j).path ∈ dirk l l.length) (c : ¬ (at_nod l j).cls = 0)
    (q : ¬ (¬ (at_nod l (nfirst l (at_nod l j).cls)).mode = (at_nod l j).mode ∨ ¬ (at_nod l (nfirst l (at_nod l j).cls)).data = (at_nod l j).data)) : ttog l j = 0 := by
  unfold ttog; rw [if_neg (fun e => u (seenk_dup.2 e)), if_neg (by rw [dirk_fnd.1 v]; decide), if_neg c, if_neg q]
theorem tognew (u : ¬ (at_nod l j).path ∈ seenk l j) (v : pparent (at_nod l j).path ∈ dirk l l.length) (hj : j < l.length) (f1 : ¬ nfirst l (at_nod l j).cls < j) : ttog l j = 0 := by
  by_cases c : (at_nod l j).cls = 0
  · exact tog0 u v c
  · have h := nfirst_of hj
    have e : nfirst l (at_nod l j).cls = j := by omega
    exact togok u v c (by rw [e]; simp)
theorem fmap_zero (c : (at_nod l j).cls = 0) : fmap l j = fmap l (j + 1) := (if_pos c).symm
theorem fmap_old (c : ¬ (at_nod l j).cls = 0) (f1 : nfirst l (at_nod l j).cls < j) : fmap l j = fmap l (j + 1) := by
  show _ = if _ then _ else _
  rw [if_neg c, if_pos f1]
theorem fmap_new (c : ¬ (at_nod l j).cls = 0) (f1 : ¬ nfirst l (at_nod l j).cls < j) : mset (fmap l j) (at_nod l j).cls (nodv (at_nod l j)) = fmap l (j + 1) := by
  show _ = if _ then _ else _
  rw [if_neg c, if_neg f1]
end

set_option maxRecDepth 100000 in
theorem tree_check1 (h : Heap) (hK : GlbK h) (hE : GlbE h) (x : Nod) (hb : Bytes h x.dv x.data) (hp : x.path.length ≤ 140737488355328) (ht : x.target.length ≤ 140737488355328) (hd : x.data.length ≤ 140737488355328) : Cal Tryd.prog 23 #[.agg #[.int .i64 (x.kind), str x.path, .int .i64 (x.mode), str x.target, (x.dv), .int .i64 (x.cls)]] h (fun v h' => v = .int .i64 (tone x) ∧ Ext h h') := by
 refine Cal_enter (args := [.agg #[.int .i64 (x.kind), str x.path, .int .i64 (x.mode), str x.target, (x.dv), .int .i64 (x.cls)]]) Tryd.func23 rfl rfl rfl (fun σ => ?_)
 refine W_seq (W_region ?_)
 refine L_mks (M_box rfl) rfl rfl rfl ?_
 rintro _ h1 ⟨rfl, hn1⟩
 have hk2 : Blk h1 h.size [.int .i64 (x.kind), str x.path, .int .i64 (x.mode), str x.target, (x.dv), .int .i64 (x.cls)] := hn1.blk
 refine La rfl rfl rfl rfl ?_
 refine L_nil (X_then ?_)
 refine W_sub _ (sk2 2 1 rfl rfl sN) ?_
 refine W_seq ?_
 refine W_cut (S := Unit) (fun _ => [(18, .bool (decide (((¬ x.kind = 0) ∧ (¬ x.kind = 1)) ∧ (¬ x.kind = 2)))), (2, .int .i64 0), (1, .pointer (some ⟨h.size, 0, none⟩))]) (fun _ h' => h' = h1) ?_ ?_
 ·refine W_region ?_
  refine L_yld (Y_fieldAddr (off := 0) (by kernel_rfl) rfl rfl) rfl rfl rfl ?_
  refine L_yld (Y_ldblk Tryd.underlying3 rfl rfl hk2 rfl) rfl rfl rfl ?_
  refine L_yld (Y_neq rfl rfl) rfl rfl rfl ?_
  refine Lm rfl rfl rfl rfl ?_
  refine L_splitd (d := 9) rfl (fun c3 => ?_) (fun c3 => ?_)
  ·refine L_yld (Y_fieldAddr (off := 0) (by kernel_rfl) rfl rfl) rfl rfl rfl ?_
   refine L_yld (Y_ldblk Tryd.underlying3 rfl rfl hk2 rfl) rfl rfl rfl ?_
   refine L_yld (Y_neq rfl rfl) rfl rfl rfl ?_
   refine L_yld (Y_pick_t rfl rfl) rfl rfl rfl ?_
   refine Lm rfl rfl rfl rfl ?_
   refine L_splitd (d := 14) rfl (fun c4 => ?_) (fun c4 => ?_)
   ·refine L_yld (Y_fieldAddr (off := 0) (by kernel_rfl) rfl rfl) rfl rfl rfl ?_
    refine L_yld (Y_ldblk Tryd.underlying3 rfl rfl hk2 rfl) rfl rfl rfl ?_
    refine L_yld (Y_neq rfl rfl) rfl rfl rfl ?_
    refine L_yld (Y_pick_t rfl rfl) rfl rfl rfl ?_
    refine L_nil ?_
    exact X_cut () (sk1 18 (lkb rfl (by first | (simp only [eq_true c3, eq_true c4, SB]; done) | (simp only [eq_true c3, eq_true c4, SB]; rfl))) (sk1 2 rfl (sk1 1 rfl sN))) rfl
   ·refine L_skip rfl rfl rfl ?_
    refine L_skip rfl rfl rfl ?_
    refine L_skip rfl rfl rfl ?_
    refine L_yld (Y_pick_f rfl rfl) rfl rfl rfl ?_
    refine L_nil ?_
    exact X_cut () (sk1 18 (lkb rfl (by first | (simp only [eq_true c3, eq_false c4, SB]; done) | (simp only [eq_true c3, eq_false c4, SB]; rfl))) (sk1 2 rfl (sk1 1 rfl sN))) rfl
  ·refine L_skip rfl rfl rfl ?_
   refine L_skip rfl rfl rfl ?_
   refine L_skip rfl rfl rfl ?_
   refine L_yld (Y_pick_f rfl rfl) rfl rfl rfl ?_
   refine Lm rfl rfl rfl rfl ?_
   refine L_skip rfl rfl rfl ?_
   refine L_skip rfl rfl rfl ?_
   refine L_skip rfl rfl rfl ?_
   refine L_yld (Y_pick_f rfl rfl) rfl rfl rfl ?_
   refine L_nil ?_
   exact X_cut () (sk1 18 (lkb rfl (by first | (simp only [eq_false c3, SB]; done) | (simp only [eq_false c3, SB]; rfl))) (sk1 2 rfl (sk1 1 rfl sN))) rfl
 rintro _ h1 rfl
 show W _ _ _ _ _ [(18, .bool (decide (((¬ x.kind = 0) ∧ (¬ x.kind = 1)) ∧ (¬ x.kind = 2)))), (2, .int .i64 0), (1, .pointer (some ⟨h.size, 0, none⟩))] _
 refine W_splitd rfl (fun a => ?_) (fun a => ?_)
 ·refine W_seq (W_region ?_)
  refine La rfl rfl rfl rfl ?_
  refine L_nil (X_then ?_)
  refine W_sub _ (sk2 2 1 rfl rfl sN) ?_
  refine W_ret (X_then_ret ?_)
  refine X_ret1 rfl rfl ?_
  exact ⟨by unfold tone; rw [if_pos (by omega)], hn1.ext⟩
 ·refine W_skip (X_then ?_)
  refine W_sub _ (sk2 2 1 rfl rfl sN) ?_
  have hk : ¬ (x.kind < 0 ∨ 2 < x.kind) := by omega
  refine W_seq (W_region ?_)
  refine L_yld (Y_fieldAddr (off := 0) (by kernel_rfl) rfl rfl) rfl rfl rfl ?_
  refine L_yld (Y_ldblk Tryd.underlying3 rfl rfl hk2 rfl) rfl rfl rfl ?_
  refine L_yld (Y_eql rfl rfl) rfl rfl rfl ?_
  refine La rfl rfl rfl rfl ?_
  refine L_nil (X_then ?_)
  refine W_sub _ (sk3 3 2 1 rfl rfl rfl sN) ?_
  refine W_seq (W_region ?_)
  refine L_yld (Y_fieldAddr (off := 0) (by kernel_rfl) rfl rfl) rfl rfl rfl ?_
  refine L_yld (Y_ldblk Tryd.underlying3 rfl rfl hk2 rfl) rfl rfl rfl ?_
  refine L_yld (Y_fieldAddr (off := 1) (by kernel_rfl) rfl rfl) rfl rfl rfl ?_
  refine L_yld (Y_ldblk Tryd.underlying9 rfl rfl hk2 rfl) rfl rfl rfl ?_
  refine L_yld (Y_fieldAddr (off := 2) (by kernel_rfl) rfl rfl) rfl rfl rfl ?_
  refine L_yld (Y_ldblk Tryd.underlying3 rfl rfl hk2 rfl) rfl rfl rfl ?_
  refine L_yld (Y_fieldAddr (off := 3) (by kernel_rfl) rfl rfl) rfl rfl rfl ?_
  refine L_yld (Y_ldblk Tryd.underlying9 rfl rfl hk2 rfl) rfl rfl rfl ?_
  refine L_yld (Y_build (v := .agg #[.int .i64 (x.kind), str x.path, .int .i64 (x.mode), str x.target, .int .i64 0]) (pv := [(0, .int .i64 (x.kind)), (1, str x.path), (2, .int .i64 (x.mode)), (3, str x.target)]) (evp (is := [0, 1, 2, 3]) (os := [.tmp 23, .tmp 25, .tmp 27, .tmp 29]) (vs := [.int .i64 (x.kind), str x.path, .int .i64 (x.mode), str x.target]) rfl rfl) (fun _ => by kernel_rfl)) rfl rfl rfl ?_
  refine L_mks (M_alloc (u := .agg #[.int .i64 0, str [], .int .i64 0, str [], .int .i64 0]) (by kernel_rfl)) rfl rfl rfl ?_
  rintro _ h2 ⟨rfl, hn5⟩
  have hk6 : Blk h2 h1.size [.int .i64 0, str [], .int .i64 0, str [], .int .i64 0] := hn5.blk
  refine L_dos (D_store (us := [.int .i64 (x.kind), str x.path, .int .i64 (x.mode), str x.target, .int .i64 0]) (show _ = some 5 by kernel_rfl) rfl rfl rfl (by simp [Value.oneCell']) hk6 (by simp)) rfl rfl ?_
  rintro h3 hp7
  have hk8 : Blk h3 h1.size [.int .i64 (x.kind), str x.path, .int .i64 (x.mode), str x.target, .int .i64 0] := hp7.blk
  refine L_nil (X_then ?_)
  refine W_sub _ (sk4 4 3 2 1 rfl rfl rfl rfl sN) ?_
  refine W_seq (W_seq (W_region ?_))
  refine Lm rfl rfl rfl rfl ?_
  refine L_nil (X_then ?_)
  refine W_splitd rfl (fun f => ?_) (fun f => ?_)
  ·refine W_region ?_
   refine L_yld (Y_fieldAddr (off := 4) (by kernel_rfl) rfl rfl) rfl rfl rfl ?_
   refine L_yld (Y_ldblk Tryd.underlying28 rfl rfl (hk2.ext (hn5.ext.then' hp7.only (by simp) (Nat.le_refl _))) rfl) rfl rfl rfl ?_
   refine L_yld (Y_len Tryd.underlying28 rfl (hb.ext ((hn1.ext.trans hn5.ext).then' hp7.only (by simp) hn1.ext.size))) rfl rfl rfl ?_
   refine L_yld (Y_fieldAddr (off := 4) (by kernel_rfl) rfl rfl) rfl rfl rfl ?_
   refine L_dos (D_store (us := [.int .i64 ((x.data.length : Int))]) (show _ = some 1 by kernel_rfl) rfl rfl rfl (by simp [Value.oneCell']) hk8 (by simp)) rfl rfl ?_
   rintro h4 hp9
   have hk10 : Blk h4 h1.size [.int .i64 (x.kind), str x.path, .int .i64 (x.mode), str x.target, .int .i64 ((x.data.length : Int))] := hp9.blk
   refine L_nil (X_then ?_)
   refine W_sub _ (sk4 4 3 2 1 rfl rfl rfl rfl sN) ?_
   have hn : nfc x = fcheck x.kind x.path x.mode x.target (x.data.length : Int) := by unfold nfc nsize; rw [if_pos f]
   refine W_seq (W_seq (W_region ?_))
   refine L_yld (Y_ldbox (us := [.int .i64 (x.kind), str x.path, .int .i64 (x.mode), str x.target, .int .i64 ((x.data.length : Int))]) Tryd.underlying66 rfl (show _ = some 5 by kernel_rfl) rfl hk10 rfl) rfl rfl rfl ?_
   refine L_call (E_call (by kernel_rfl) rfl) (fit_Check _ (hK.ext (((hn1.ext.trans hn5.ext).then' hp7.only (by simp) hn1.ext.size).then' hp9.only (by simp) hn1.ext.size)) (hE.ext (((hn1.ext.trans hn5.ext).then' hp7.only (by simp) hn1.ext.size).then' hp9.only (by simp) hn1.ext.size)) x.kind x.path x.mode x.target (x.data.length : Int) (by first | omega | rfl | (simp <;> omega)) (by first | omega | rfl | (simp <;> omega))) rfl rfl rfl ?_
   rintro _ h5 ⟨rfl, hx11⟩
   refine La rfl rfl rfl rfl ?_
   refine L_nil (X_then ?_)
   refine W_sub _ (sk4 5 3 2 1 rfl rfl rfl rfl sN) ?_
   refine W_seq (W_region ?_)
   refine Lm rfl rfl rfl rfl ?_
   refine L_yld (Y_neq rfl rfl) rfl rfl rfl ?_
   refine L_nil (X_then ?_)
   refine W_sub _ (sk5 39 5 3 2 1 rfl rfl rfl rfl rfl sN) ?_
   refine W_splitd rfl (fun e => ?_) (fun e => ?_)
   ·refine W_seq (W_region ?_)
    refine Lm rfl rfl rfl rfl ?_
    refine La rfl rfl rfl rfl ?_
    refine L_nil (X_then ?_)
    refine W_sub _ (sk3 2 3 1 rfl rfl rfl sN) ?_
    refine W_ret (X_then_ret ?_)
    refine X_ret1 rfl rfl ?_
    exact ⟨by unfold tone; rw [if_neg hk, hn, if_pos e], ((((hn1.ext.trans hn5.ext).then' hp7.only (by simp) hn1.ext.size).then' hp9.only (by simp) hn1.ext.size).trans hx11)⟩
   ·refine W_skip (X_then ?_)
    refine W_sub _ (sk3 3 2 1 rfl rfl rfl sN) ?_
    refine W_seq (W_block (W_seq (W_region ?_)))
    refine Lm rfl rfl rfl rfl ?_
    refine L_yld (Y_notd rfl) rfl rfl rfl ?_
    refine Lm rfl rfl rfl rfl ?_
    refine L_known (d := 44) false rfl (by exact decide_eq_false (by exact fun h => h f)) ?_
    refine L_skip rfl rfl rfl ?_
    refine L_skip rfl rfl rfl ?_
    refine L_skip rfl rfl rfl ?_
    refine L_skip rfl rfl rfl ?_
    refine L_yld (Y_pick_f rfl rfl) rfl rfl rfl ?_
    refine La rfl rfl rfl rfl ?_
    refine L_nil (X_then ?_)
    refine W_sub _ (sk4 41 3 2 1 rfl rfl rfl rfl sN) ?_
    refine W_false rfl ?_
    refine W_seq (W_region ?_)
    refine L_yld (Y_fieldAddr (off := 5) (by kernel_rfl) rfl rfl) rfl rfl rfl ?_
    refine L_yld (Y_ldblk Tryd.underlying3 rfl rfl (hk2.ext (((hn5.ext.then' hp7.only (by simp) (Nat.le_refl _)).then' hp9.only (by simp) (Nat.le_refl _)).trans hx11)) rfl) rfl rfl rfl ?_
    refine L_yld (Y_lss rfl rfl) rfl rfl rfl ?_
    refine Lm rfl rfl rfl rfl ?_
    refine L_splitd (d := 54) rfl (fun c => ?_) (fun c => ?_)
    ·refine L_skip rfl rfl rfl ?_
     refine L_skip rfl rfl rfl ?_
     refine L_skip rfl rfl rfl ?_
     refine L_skip rfl rfl rfl ?_
     refine L_skip rfl rfl rfl ?_
     refine L_skip rfl rfl rfl ?_
     refine L_skip rfl rfl rfl ?_
     refine L_yld (Y_pick_t rfl rfl) rfl rfl rfl ?_
     refine La rfl rfl rfl rfl ?_
     refine L_nil (X_then ?_)
     refine W_sub _ (sk2 50 2 rfl rfl sN) ?_
     refine W_true rfl ?_
     refine W_seq (W_region ?_)
     refine La rfl rfl rfl rfl ?_
     refine L_nil (X_then ?_)
     refine W_sub _ (sk1 2 rfl sN) ?_
     refine W_ret (X_block_ret (X_then_ret ?_))
     refine X_ret1 rfl rfl ?_
     exact ⟨by unfold tone; rw [if_neg hk, hn, if_neg e, if_neg (fun e => e.1 f), if_pos (.inl c)], ((((hn1.ext.trans hn5.ext).then' hp7.only (by simp) hn1.ext.size).then' hp9.only (by simp) hn1.ext.size).trans hx11)⟩
    ·refine L_yld (Y_move rfl) rfl rfl rfl ?_
     refine L_yld (Y_notd rfl) rfl rfl rfl ?_
     refine Lm rfl rfl rfl rfl ?_
     refine L_known (d := 57) false rfl (by exact decide_eq_false (by exact fun h => h f)) ?_
     refine L_skip rfl rfl rfl ?_
     refine L_skip rfl rfl rfl ?_
     refine L_skip rfl rfl rfl ?_
     refine L_yld (Y_pick_f rfl rfl) rfl rfl rfl ?_
     refine L_yld (Y_pick_f rfl rfl) rfl rfl rfl ?_
     refine La rfl rfl rfl rfl ?_
     refine L_nil (X_then ?_)
     refine W_sub _ (sk2 50 2 rfl rfl sN) ?_
     refine W_false rfl ?_
     refine W_skip (X_block (X_then ?_))
     refine W_sub _ (sk1 2 rfl sN) ?_
     refine W_seq (W_region ?_)
     refine La rfl rfl rfl rfl ?_
     refine L_nil (X_then (W_ret ?_))
     refine X_ret1 rfl rfl ?_
     exact ⟨by unfold tone; rw [if_neg hk, hn, if_neg e, if_neg (fun e => e.1 f), if_neg (fun e => e.elim c (fun e => e.1 f))], ((((hn1.ext.trans hn5.ext).then' hp7.only (by simp) hn1.ext.size).then' hp9.only (by simp) hn1.ext.size).trans hx11)⟩
  ·refine W_skip (X_then ?_)
   refine W_sub _ (sk4 4 3 2 1 rfl rfl rfl rfl sN) ?_
   have hn : nfc x = fcheck x.kind x.path x.mode x.target 0 := by unfold nfc nsize; rw [if_neg f]
   refine W_seq (W_seq (W_region ?_))
   refine L_yld (Y_ldbox (us := [.int .i64 (x.kind), str x.path, .int .i64 (x.mode), str x.target, .int .i64 0]) Tryd.underlying66 rfl (show _ = some 5 by kernel_rfl) rfl hk8 rfl) rfl rfl rfl ?_
   refine L_call (E_call (by kernel_rfl) rfl) (fit_Check _ (hK.ext ((hn1.ext.trans hn5.ext).then' hp7.only (by simp) hn1.ext.size)) (hE.ext ((hn1.ext.trans hn5.ext).then' hp7.only (by simp) hn1.ext.size)) x.kind x.path x.mode x.target (0 : Int) (by first | omega | rfl | (simp <;> omega)) (by first | omega | rfl | (simp <;> omega))) rfl rfl rfl ?_
   rintro _ h6 ⟨rfl, hx12⟩
   refine La rfl rfl rfl rfl ?_
   refine L_nil (X_then ?_)
   refine W_sub _ (sk4 5 3 2 1 rfl rfl rfl rfl sN) ?_
   refine W_seq (W_region ?_)
   refine Lm rfl rfl rfl rfl ?_
   refine L_yld (Y_neq rfl rfl) rfl rfl rfl ?_
   refine L_nil (X_then ?_)
   refine W_sub _ (sk5 39 5 3 2 1 rfl rfl rfl rfl rfl sN) ?_
   refine W_splitd rfl (fun e => ?_) (fun e => ?_)
   ·refine W_seq (W_region ?_)
    refine Lm rfl rfl rfl rfl ?_
    refine La rfl rfl rfl rfl ?_
    refine L_nil (X_then ?_)
    refine W_sub _ (sk3 2 3 1 rfl rfl rfl sN) ?_
    refine W_ret (X_then_ret ?_)
    refine X_ret1 rfl rfl ?_
    exact ⟨by unfold tone; rw [if_neg hk, hn, if_pos e], (((hn1.ext.trans hn5.ext).then' hp7.only (by simp) hn1.ext.size).trans hx12)⟩
   ·refine W_skip (X_then ?_)
    refine W_sub _ (sk3 3 2 1 rfl rfl rfl sN) ?_
    refine W_seq (W_block (W_seq (W_region ?_)))
    refine Lm rfl rfl rfl rfl ?_
    refine L_yld (Y_notd rfl) rfl rfl rfl ?_
    refine Lm rfl rfl rfl rfl ?_
    refine L_known (d := 44) true rfl (by exact decide_eq_true (by exact f)) ?_
    refine L_yld (Y_fieldAddr (off := 4) (by kernel_rfl) rfl rfl) rfl rfl rfl ?_
    refine L_yld (Y_ldblk Tryd.underlying28 rfl rfl (hk2.ext ((hn5.ext.then' hp7.only (by simp) (Nat.le_refl _)).trans hx12)) rfl) rfl rfl rfl ?_
    refine L_yld (Y_len Tryd.underlying28 rfl (hb.ext (((hn1.ext.trans hn5.ext).then' hp7.only (by simp) hn1.ext.size).trans hx12))) rfl rfl rfl ?_
    refine L_yld (Y_gtr rfl rfl) rfl rfl rfl ?_
    refine L_yld (Y_pick_t rfl rfl) rfl rfl rfl ?_
    refine La rfl rfl rfl rfl ?_
    refine L_nil (X_then ?_)
    refine W_sub _ (sk4 41 3 2 1 rfl rfl rfl rfl sN) ?_
    refine W_splitd rfl (fun g => ?_) (fun g => ?_)
    ·refine W_seq (W_region ?_)
     refine La rfl rfl rfl rfl ?_
     refine L_nil (X_then ?_)
     refine W_sub _ (sk1 2 rfl sN) ?_
     refine W_ret (X_block_ret (X_then_ret ?_))
     refine X_ret1 rfl rfl ?_
     exact ⟨by unfold tone; rw [if_neg hk, hn, if_neg e, if_pos ⟨f, by omega⟩], (((hn1.ext.trans hn5.ext).then' hp7.only (by simp) hn1.ext.size).trans hx12)⟩
    ·refine W_seq (W_region ?_)
     refine L_yld (Y_fieldAddr (off := 5) (by kernel_rfl) rfl rfl) rfl rfl rfl ?_
     refine L_yld (Y_ldblk Tryd.underlying3 rfl rfl (hk2.ext ((hn5.ext.then' hp7.only (by simp) (Nat.le_refl _)).trans hx12)) rfl) rfl rfl rfl ?_
     refine L_yld (Y_lss rfl rfl) rfl rfl rfl ?_
     refine Lm rfl rfl rfl rfl ?_
     refine L_splitd (d := 54) rfl (fun c => ?_) (fun c => ?_)
     ·refine L_skip rfl rfl rfl ?_
      refine L_skip rfl rfl rfl ?_
      refine L_skip rfl rfl rfl ?_
      refine L_skip rfl rfl rfl ?_
      refine L_skip rfl rfl rfl ?_
      refine L_skip rfl rfl rfl ?_
      refine L_skip rfl rfl rfl ?_
      refine L_yld (Y_pick_t rfl rfl) rfl rfl rfl ?_
      refine La rfl rfl rfl rfl ?_
      refine L_nil (X_then ?_)
      refine W_sub _ (sk2 50 2 rfl rfl sN) ?_
      refine W_true rfl ?_
      refine W_seq (W_region ?_)
      refine La rfl rfl rfl rfl ?_
      refine L_nil (X_then ?_)
      refine W_sub _ (sk1 2 rfl sN) ?_
      refine W_ret (X_block_ret (X_then_ret ?_))
      refine X_ret1 rfl rfl ?_
      exact ⟨by unfold tone; rw [if_neg hk, hn, if_neg e, if_neg (fun e => by have := e.2; omega), if_pos (.inl c)], (((hn1.ext.trans hn5.ext).then' hp7.only (by simp) hn1.ext.size).trans hx12)⟩
     ·refine L_yld (Y_move rfl) rfl rfl rfl ?_
      refine L_yld (Y_notd rfl) rfl rfl rfl ?_
      refine Lm rfl rfl rfl rfl ?_
      refine L_known (d := 57) true rfl (by exact decide_eq_true (by exact f)) ?_
      refine L_yld (Y_fieldAddr (off := 5) (by kernel_rfl) rfl rfl) rfl rfl rfl ?_
      refine L_yld (Y_ldblk Tryd.underlying3 rfl rfl (hk2.ext ((hn5.ext.then' hp7.only (by simp) (Nat.le_refl _)).trans hx12)) rfl) rfl rfl rfl ?_
      refine L_yld (Y_neq rfl rfl) rfl rfl rfl ?_
      refine L_yld (Y_pick_t rfl rfl) rfl rfl rfl ?_
      refine L_yld (Y_pick_f rfl rfl) rfl rfl rfl ?_
      refine La rfl rfl rfl rfl ?_
      refine L_nil (X_then ?_)
      refine W_sub _ (sk2 50 2 rfl rfl sN) ?_
      refine W_splitd rfl (fun q => ?_) (fun q => ?_)
      ·refine W_seq (W_region ?_)
       refine La rfl rfl rfl rfl ?_
       refine L_nil (X_then ?_)
       refine W_sub _ (sk1 2 rfl sN) ?_
       refine W_ret (X_block_ret (X_then_ret ?_))
       refine X_ret1 rfl rfl ?_
       exact ⟨by unfold tone; rw [if_neg hk, hn, if_neg e, if_neg (fun e => by have := e.2; omega), if_pos (.inr ⟨f, q⟩)], (((hn1.ext.trans hn5.ext).then' hp7.only (by simp) hn1.ext.size).trans hx12)⟩
      ·refine W_skip (X_block (X_then ?_))
       refine W_sub _ (sk1 2 rfl sN) ?_
       refine W_seq (W_region ?_)
       refine La rfl rfl rfl rfl ?_
       refine L_nil (X_then (W_ret ?_))
       refine X_ret1 rfl rfl ?_
       exact ⟨by unfold tone; rw [if_neg hk, hn, if_neg e, if_neg (fun e => by have := e.2; omega), if_neg (fun e => e.elim c (fun e => q e.2))], (((hn1.ext.trans hn5.ext).then' hp7.only (by simp) hn1.ext.size).trans hx12)⟩

set_option maxRecDepth 100000 in
theorem tree_Check (h : Heap) (hK : GlbK h) (hE : GlbE h) (w : Value) (l : List Nod) (hl : Rows nodS h w l) (hn : l.length ≤ 140737488355328) (hs : ∀ x ∈ l, x.path.length ≤ 140737488355328 ∧ x.target.length ≤ 140737488355328 ∧ x.data.length ≤ 140737488355328) : Cal Tryd.prog 12 #[w] h (fun v h' => v = .tuple #[.int .i64 (tpos l), .int .i64 (terr l)] ∧ Ext h h') := by
 refine Cal_enter (args := [w]) Tryd.func12 rfl rfl rfl (fun σ => ?_)
 refine W_seq (W_region ?_)
 refine La rfl rfl rfl rfl ?_
 refine La rfl rfl rfl rfl ?_
 refine L_nil (X_then (W_seq (W_region ?_)))
 refine L_mks (M_makeMap (α := List UInt8) (fun l : List UInt8 => str l)) rfl rfl rfl ?_
 rintro _ h1 ⟨rfl, hx1, hb2⟩
 refine L_dos (D_insert keyS Tryd.underlying47 Tryd.underlying9 rfl rfl rfl hb2) rfl rfl ?_
 rintro h2 ⟨hx3, -, hb4⟩
 refine Lm rfl rfl rfl rfl ?_
 refine La rfl rfl rfl rfl ?_
 refine L_nil (X_then ?_)
 refine W_sub _ (sk4 4 3 2 0 rfl rfl rfl rfl sN) ?_
 refine W_seq (W_seq (W_region ?_))
 refine Lm rfl rfl rfl rfl ?_
 refine L_yld (Y_lenr Tryd.underlying22 rfl (hl.ext (hx1.then' hx3 (by simp) (Nat.le_refl _)))) rfl rfl rfl ?_
 refine Lm rfl rfl rfl rfl ?_
 refine L_nil (X_then (W_block ?_))
 refine W_loop (S := Nat) (fun i => [(17, .int .i64 ((l.length : Int))), (16, w), (4, .map (some h.size)), (0, w), (18, .int .i64 ((i : Int)))]) (fun i h' => (i ≤ l.length ∧ ∀ k, k < i → tone (at_nod l k) = 0) ∧ Only [h.size] h2 h' ∧ SetK h' h.size (dirk l i)) (fun i => l.length - i) 0 (sk5 17 16 4 0 18 rfl rfl rfl rfl rfl sN) ?_ ?_
 ·exact ⟨⟨by omega, fun k hk => absurd hk (Nat.not_lt_zero _)⟩, Only.refl _ _, hb4⟩
 rintro i h3 ⟨⟨hi, h0⟩, hx, hd1⟩
 show W _ _ _ _ _ [(17, .int .i64 ((l.length : Int))), (16, w), (4, .map (some h.size)), (0, w), (18, .int .i64 ((i : Int)))] _
 refine W_seq (W_region ?_)
 refine L_yld (Y_lss rfl rfl) rfl rfl rfl ?_
 refine L_nil (X_then (W_seq ?_))
 refine W_splitd rfl (fun hlt => ?_) (fun hlt => ?_)
 ·refine W_skip (X_then ?_)
  refine W_sub _ (sk5 17 16 4 0 18 rfl rfl rfl rfl rfl sN) ?_
  refine W_seq (W_block (W_seq (W_region ?_)))
  refine Lm rfl rfl rfl rfl ?_
  refine L_yld (Y_idxr Tryd.underlying22 (show _ = some 6 by kernel_rfl) rfl rfl rfl (hl.ext ((hx1.then' hx3 (by simp) (Nat.le_refl _)).then' hx (by simp) (Nat.le_refl _))) (by omega) (by omega)) rfl rfl rfl ?_
  refine L_yld (Y_ldrA0 (k := ((i : Int)).toNat) (us := [.int .i64 ((at_nod l ((i : Int)).toNat).kind), str ((at_nod l ((i : Int)).toNat).path), .int .i64 ((at_nod l ((i : Int)).toNat).mode), str ((at_nod l ((i : Int)).toNat).target), ((at_nod l ((i : Int)).toNat).dv), .int .i64 ((at_nod l ((i : Int)).toNat).cls)]) Tryd.underlying30 rfl (show _ = some 6 by kernel_rfl) rfl rfl (hl.ext ((hx1.then' hx3 (by simp) (Nat.le_refl _)).then' hx (by simp) (Nat.le_refl _))) (by omega) rfl) rfl rfl rfl ?_
  refine L_mks (M_alloc (u := .agg #[.int .i64 0, str [], .int .i64 0, str [], .slice none 0 0, .int .i64 0]) (by kernel_rfl)) rfl rfl rfl ?_
  rintro _ h4 ⟨rfl, hn5⟩
  have hk6 : Blk h4 h3.size [.int .i64 0, str [], .int .i64 0, str [], .slice none 0 0, .int .i64 0] := hn5.blk
  refine La rfl rfl rfl rfl ?_
  refine L_dos (D_store (us := [.int .i64 ((at_nod l ((i : Int)).toNat).kind), str ((at_nod l ((i : Int)).toNat).path), .int .i64 ((at_nod l ((i : Int)).toNat).mode), str ((at_nod l ((i : Int)).toNat).target), ((at_nod l ((i : Int)).toNat).dv), .int .i64 ((at_nod l ((i : Int)).toNat).cls)]) (show _ = some 6 by kernel_rfl) rfl rfl rfl (by intro u_ hu_; simp only [List.mem_cons, List.not_mem_nil, or_false] at hu_; rcases hu_ with rfl | rfl | rfl | rfl | rfl | rfl <;> first | rfl | exact ((show Bytes _ ((at_nod l ((i : Int)).toNat).dv) ((at_nod l ((i : Int)).toNat).data) from (hl.ext (((hx1.then' hx3 (by simp) (Nat.le_refl _)).then' hx (by simp) (Nat.le_refl _)).trans hn5.ext)).okat (k := ((i : Int)).toNat) (by omega))).cell1) hk6 (by simp)) rfl rfl ?_
  rintro h5 hp7
  have hk8 : Blk h5 h3.size [.int .i64 ((at_nod l ((i : Int)).toNat).kind), str ((at_nod l ((i : Int)).toNat).path), .int .i64 ((at_nod l ((i : Int)).toNat).mode), str ((at_nod l ((i : Int)).toNat).target), ((at_nod l ((i : Int)).toNat).dv), .int .i64 ((at_nod l ((i : Int)).toNat).cls)] := hp7.blk
  refine L_nil (X_then ?_)
  refine W_sub _ (sk7 5 6 17 16 4 0 18 rfl rfl rfl rfl rfl rfl rfl sN) ?_
  have hmm := hs _ (nod_mem (l := l) (k := (i : Int).toNat) (by omega))
  refine W_seq (W_seq (W_region ?_))
  refine L_yld (Y_ldbox (us := [.int .i64 ((at_nod l ((i : Int)).toNat).kind), str ((at_nod l ((i : Int)).toNat).path), .int .i64 ((at_nod l ((i : Int)).toNat).mode), str ((at_nod l ((i : Int)).toNat).target), ((at_nod l ((i : Int)).toNat).dv), .int .i64 ((at_nod l ((i : Int)).toNat).cls)]) Tryd.underlying30 rfl (show _ = some 6 by kernel_rfl) rfl hk8 rfl) rfl rfl rfl ?_
  refine L_call (E_call (by kernel_rfl) rfl) (tree_check1 _ (hK.ext ((((hx1.then' hx3 (by simp) (Nat.le_refl _)).then' hx (by simp) (Nat.le_refl _)).trans hn5.ext).then' hp7.only (by simp) (Nat.le_trans (Nat.le_trans hx1.size hx3.size) hx.size))) (hE.ext ((((hx1.then' hx3 (by simp) (Nat.le_refl _)).then' hx (by simp) (Nat.le_refl _)).trans hn5.ext).then' hp7.only (by simp) (Nat.le_trans (Nat.le_trans hx1.size hx3.size) hx.size))) (at_nod l ((i : Int)).toNat) (show Bytes _ ((at_nod l ((i : Int)).toNat).dv) ((at_nod l ((i : Int)).toNat).data) from (hl.ext ((((hx1.then' hx3 (by simp) (Nat.le_refl _)).then' hx (by simp) (Nat.le_refl _)).trans hn5.ext).then' hp7.only (by simp) (Nat.le_trans (Nat.le_trans hx1.size hx3.size) hx.size))).okat (k := ((i : Int)).toNat) (by omega)) (by first | omega | rfl | (simp <;> omega)) (by first | omega | rfl | (simp <;> omega)) (by first | omega | rfl | (simp <;> omega))) rfl rfl rfl ?_
  rintro _ h6 ⟨rfl, hx9⟩
  refine La rfl rfl rfl rfl ?_
  refine L_nil (X_then ?_)
  refine W_sub _ (sk8 7 5 6 17 16 4 0 18 rfl rfl rfl rfl rfl rfl rfl rfl sN) ?_
  refine W_seq (W_region ?_)
  refine Lm rfl rfl rfl rfl ?_
  refine L_yld (Y_neq rfl rfl) rfl rfl rfl ?_
  refine L_nil (X_then ?_)
  refine W_sub _ (sk1 26 rfl (sk8 7 5 6 17 16 4 0 18 rfl rfl rfl rfl rfl rfl rfl rfl sN)) ?_
  refine W_splitd rfl (fun e => ?_) (fun e => ?_)
  ·refine W_seq (W_region ?_)
   refine Lm rfl rfl rfl rfl ?_
   refine Lm rfl rfl rfl rfl ?_
   refine La rfl rfl rfl rfl ?_
   refine La rfl rfl rfl rfl ?_
   refine L_nil (X_then ?_)
   refine W_sub _ (sk8 3 2 6 17 16 4 0 18 rfl rfl rfl rfl rfl rfl rfl rfl sN) ?_
   refine W_ret (X_then_ret (X_block_ret (X_then_ret (X_then_ret (X_block_ret (X_then_ret ?_))))))
   refine X_ret2 rfl rfl rfl ?_
   have hr := tres1 (l := l) (i := i) h0 (by omega) e
   exact ⟨by rw [hr.1, hr.2]; rfl, (((((hx1.then' hx3 (by simp) (Nat.le_refl _)).then' hx (by simp) (Nat.le_refl _)).trans hn5.ext).then' hp7.only (by simp) (Nat.le_trans (Nat.le_trans hx1.size hx3.size) hx.size)).trans hx9)⟩
  ·refine W_skip (X_then ?_)
   refine W_sub _ (sk6 6 17 16 4 0 18 rfl rfl rfl rfl rfl rfl sN) ?_
   refine W_seq (W_region ?_)
   refine L_yld (Y_fieldAddr (off := 0) (by kernel_rfl) rfl rfl) rfl rfl rfl ?_
   refine L_yld (Y_ldblk Tryd.underlying3 rfl rfl (hk8.ext hx9) rfl) rfl rfl rfl ?_
   refine L_yld (Y_eql rfl rfl) rfl rfl rfl ?_
   refine L_nil (X_then ?_)
   refine W_sub _ (sk7 31 6 17 16 4 0 18 rfl rfl rfl rfl rfl rfl rfl sN) ?_
   refine W_splitd rfl (fun d => ?_) (fun d => ?_)
   ·refine W_region ?_
    refine Lm rfl rfl rfl rfl ?_
    refine L_yld (Y_fieldAddr (off := 1) (by kernel_rfl) rfl rfl) rfl rfl rfl ?_
    refine L_yld (Y_ldblk Tryd.underlying9 rfl rfl (hk8.ext hx9) rfl) rfl rfl rfl ?_
    refine L_dos (D_updset Tryd.underlying47 Tryd.underlying9 rfl rfl rfl (hd1.ext ((hn5.ext.then' hp7.only (by simp) (Nat.le_refl _)).trans hx9))) rfl rfl ?_
    rintro h7 ⟨hx10, -, hb11⟩
    refine L_nil (X_block (X_then ?_))
    refine W_sub _ (sk5 17 16 4 0 18 rfl rfl rfl rfl rfl sN) ?_
    refine W_region ?_
    refine L_yld (Y_add rfl rfl (by omega) (by omega)) rfl rfl rfl ?_
    refine Lm rfl rfl rfl rfl ?_
    refine L_nil ?_
    refine X_loop (i + 1) (sk5 17 16 4 0 18 rfl rfl rfl rfl rfl sN) ?_ ?_
    ·exact ⟨⟨by omega, below_succ (f := fun i => tone (at_nod l i)) h0 (Classical.not_not.1 e)⟩, (Only.trans (Only.trans (Only.trans (Only.trans (Only.trans (Only.refl _ _) hx (fun _ hb_ => .inl hb_)) hn5.ext (fun _ hb_ => by cases hb_)) hp7.only (fun b_ hb_ => .inr (by rw [List.mem_singleton.1 hb_]; exact hx.size))) hx9 (fun _ hb_ => by cases hb_)) hx10 (fun _ hb_ => .inl hb_)), SetK.congr hb11 (dirk_yes d)⟩
    ·(try dsimp only)
     omega
   ·refine W_skip (X_block (X_then ?_))
    refine W_sub _ (sk5 17 16 4 0 18 rfl rfl rfl rfl rfl sN) ?_
    refine W_region ?_
    refine L_yld (Y_add rfl rfl (by omega) (by omega)) rfl rfl rfl ?_
    refine Lm rfl rfl rfl rfl ?_
    refine L_nil ?_
    refine X_loop (i + 1) (sk5 17 16 4 0 18 rfl rfl rfl rfl rfl sN) ?_ ?_
    ·exact ⟨⟨by omega, below_succ (f := fun i => tone (at_nod l i)) h0 (Classical.not_not.1 e)⟩, (Only.trans (Only.trans (Only.trans (Only.trans (Only.refl _ _) hx (fun _ hb_ => .inl hb_)) hn5.ext (fun _ hb_ => by cases hb_)) hp7.only (fun b_ hb_ => .inr (by rw [List.mem_singleton.1 hb_]; exact hx.size))) hx9 (fun _ hb_ => by cases hb_)), SetK.congr (hd1.ext ((hn5.ext.then' hp7.only (by simp) (Nat.le_refl _)).trans hx9)) (dirk_no d)⟩
    ·(try dsimp only)
     omega
 ·refine W_exit ?_
  refine X_then_exit (X_then_exit ?_)
  refine X_block_hit ?_
  refine X_then ?_
  refine W_sub _ (sk2 4 0 rfl rfl sN) ?_
  obtain rfl : i = l.length := by omega
  refine W_seq (W_region ?_)
  refine L_mks (M_makeMap (α := List UInt8) (fun l : List UInt8 => str l)) rfl rfl rfl ?_
  rintro _ h8 ⟨rfl, hx12, hb13⟩
  refine La rfl rfl rfl rfl ?_
  refine L_nil (X_then ?_)
  refine W_sub _ (sk3 8 4 0 rfl rfl rfl sN) ?_
  refine W_seq (W_region ?_)
  refine L_mks (M_makeMap (α := Int) (fun z : Int => .int .i64 z)) rfl rfl rfl ?_
  rintro _ h9 ⟨rfl, hx14, hb15⟩
  refine La rfl rfl rfl rfl ?_
  refine L_nil (X_then ?_)
  refine W_sub _ (sk4 9 8 4 0 rfl rfl rfl rfl sN) ?_
  refine W_seq (W_seq (W_region ?_))
  refine Lm rfl rfl rfl rfl ?_
  refine L_yld (Y_lenr Tryd.underlying22 rfl (hl.ext ((((hx1.then' hx3 (by simp) (Nat.le_refl _)).then' hx (by simp) (Nat.le_refl _)).trans hx12).trans hx14))) rfl rfl rfl ?_
  refine Lm rfl rfl rfl rfl ?_
  refine L_nil (X_then (W_block ?_))
  refine W_loop (S := Nat) (fun j => [(39, .int .i64 ((l.length : Int))), (38, w), (9, .map (some h8.size)), (8, .map (some h3.size)), (4, .map (some h.size)), (0, w), (40, .int .i64 ((j : Int)))]) (fun j h' => (j ≤ l.length ∧ ∀ k, k < j → ttog l k = 0) ∧ Ext h3 h' ∧ SetK h' h3.size (seenk l j) ∧ MapK (fun z : Int => .int .i64 z) h' h8.size (fmap l j)) (fun j => l.length - j) 0 (sk7 39 38 9 8 4 0 40 rfl rfl rfl rfl rfl rfl rfl sN) ?_ ?_
  ·exact ⟨⟨by omega, fun k hk => absurd hk (Nat.not_lt_zero _)⟩, (hx12.trans hx14), (hb13.ext hx14), hb15⟩
  rintro j h10 ⟨⟨hj, g0⟩, hx2, hs1, hm1⟩
  show W _ _ _ _ _ [(39, .int .i64 ((l.length : Int))), (38, w), (9, .map (some h8.size)), (8, .map (some h3.size)), (4, .map (some h.size)), (0, w), (40, .int .i64 ((j : Int)))] _
  refine W_seq (W_region ?_)
  refine L_yld (Y_lss rfl rfl) rfl rfl rfl ?_
  refine L_nil (X_then (W_seq ?_))
  refine W_splitd rfl (fun hlt2 => ?_) (fun hlt2 => ?_)
  ·refine W_skip (X_then ?_)
   refine W_sub _ (sk7 39 38 9 8 4 0 40 rfl rfl rfl rfl rfl rfl rfl sN) ?_
   refine W_seq (W_block (W_seq (W_region ?_)))
   refine Lm rfl rfl rfl rfl ?_
   refine L_yld (Y_idxr Tryd.underlying22 (show _ = some 6 by kernel_rfl) rfl rfl rfl (hl.ext (((hx1.then' hx3 (by simp) (Nat.le_refl _)).then' hx (by simp) (Nat.le_refl _)).trans hx2)) (by omega) (by omega)) rfl rfl rfl ?_
   refine L_yld (Y_ldrA0 (k := ((j : Int)).toNat) (us := [.int .i64 ((at_nod l ((j : Int)).toNat).kind), str ((at_nod l ((j : Int)).toNat).path), .int .i64 ((at_nod l ((j : Int)).toNat).mode), str ((at_nod l ((j : Int)).toNat).target), ((at_nod l ((j : Int)).toNat).dv), .int .i64 ((at_nod l ((j : Int)).toNat).cls)]) Tryd.underlying30 rfl (show _ = some 6 by kernel_rfl) rfl rfl (hl.ext (((hx1.then' hx3 (by simp) (Nat.le_refl _)).then' hx (by simp) (Nat.le_refl _)).trans hx2)) (by omega) rfl) rfl rfl rfl ?_
   refine L_mks (M_alloc (u := .agg #[.int .i64 0, str [], .int .i64 0, str [], .slice none 0 0, .int .i64 0]) (by kernel_rfl)) rfl rfl rfl ?_
   rintro _ h11 ⟨rfl, hn16⟩
   have hk17 : Blk h11 h10.size [.int .i64 0, str [], .int .i64 0, str [], .slice none 0 0, .int .i64 0] := hn16.blk
   refine La rfl rfl rfl rfl ?_
   refine L_dos (D_store (us := [.int .i64 ((at_nod l ((j : Int)).toNat).kind), str ((at_nod l ((j : Int)).toNat).path), .int .i64 ((at_nod l ((j : Int)).toNat).mode), str ((at_nod l ((j : Int)).toNat).target), ((at_nod l ((j : Int)).toNat).dv), .int .i64 ((at_nod l ((j : Int)).toNat).cls)]) (show _ = some 6 by kernel_rfl) rfl rfl rfl (by intro u_ hu_; simp only [List.mem_cons, List.not_mem_nil, or_false] at hu_; rcases hu_ with rfl | rfl | rfl | rfl | rfl | rfl <;> first | rfl | exact ((show Bytes _ ((at_nod l ((j : Int)).toNat).dv) ((at_nod l ((j : Int)).toNat).data) from (hl.ext ((((hx1.then' hx3 (by simp) (Nat.le_refl _)).then' hx (by simp) (Nat.le_refl _)).trans hx2).trans hn16.ext)).okat (k := ((j : Int)).toNat) (by omega))).cell1) hk17 (by simp)) rfl rfl ?_
   rintro h12 hp18
   have hk19 : Blk h12 h10.size [.int .i64 ((at_nod l ((j : Int)).toNat).kind), str ((at_nod l ((j : Int)).toNat).path), .int .i64 ((at_nod l ((j : Int)).toNat).mode), str ((at_nod l ((j : Int)).toNat).target), ((at_nod l ((j : Int)).toNat).dv), .int .i64 ((at_nod l ((j : Int)).toNat).cls)] := hp18.blk
   refine L_nil (X_then ?_)
   refine W_sub _ (sk1 10 rfl (sk8 11 39 38 9 8 4 0 40 rfl rfl rfl rfl rfl rfl rfl rfl sN)) ?_
   have hmm := hs _ (nod_mem (l := l) (k := (j : Int).toNat) (by omega))
   refine W_seq (W_block (W_seq (W_region ?_)))
   refine Lm rfl rfl rfl rfl ?_
   refine L_yld (Y_fieldAddr (off := 1) (by kernel_rfl) rfl rfl) rfl rfl rfl ?_
   refine L_yld (Y_ldblk Tryd.underlying9 rfl rfl hk19 rfl) rfl rfl rfl ?_
   refine L_yld (Y_lookset Tryd.underlying47 Tryd.underlying9 (by kernel_rfl) rfl rfl (hs1.ext (hn16.ext.then' hp18.only (by simp) (Nat.le_refl _)))) rfl rfl rfl ?_
   refine La rfl rfl rfl rfl ?_
   refine L_nil (X_then ?_)
   refine W_sub _ (sk2 45 10 rfl rfl (sk8 11 39 38 9 8 4 0 40 rfl rfl rfl rfl rfl rfl rfl rfl sN)) ?_
   refine W_splitd rfl (fun u => ?_) (fun u => ?_)
   ·refine W_seq (W_region ?_)
    refine Lm rfl rfl rfl rfl ?_
    refine La rfl rfl rfl rfl ?_
    refine La rfl rfl rfl rfl ?_
    refine L_nil (X_then ?_)
    refine W_sub _ (sk3 3 2 10 rfl rfl rfl (sk8 11 39 38 9 8 4 0 40 rfl rfl rfl rfl rfl rfl rfl rfl sN)) ?_
    refine W_ret (X_block_ret (X_then_ret (X_block_ret (X_then_ret (X_then_ret (X_block_ret (X_then_ret ?_)))))))
    refine X_ret2 rfl rfl rfl ?_
    have hr := tres2 h0 g0 (by omega) (by rw [tog14 u]; decide)
    exact ⟨by rw [hr.1, hr.2, tog14 u], (((((hx1.then' hx3 (by simp) (Nat.le_refl _)).then' hx (by simp) (Nat.le_refl _)).trans hx2).trans hn16.ext).then' hp18.only (by simp) (Nat.le_trans (Nat.le_trans (Nat.le_trans hx1.size hx3.size) hx.size) hx2.size))⟩
   ·refine W_seq (W_region ?_)
    refine Lm rfl rfl rfl rfl ?_
    refine L_yld (Y_fieldAddr (off := 1) (by kernel_rfl) rfl rfl) rfl rfl rfl ?_
    refine L_yld (Y_ldblk Tryd.underlying9 rfl rfl hk19 rfl) rfl rfl rfl ?_
    refine L_call (E_call (by kernel_rfl) rfl) (pathname_Parent _ ((at_nod l ((j : Int)).toNat).path) (by first | omega | rfl | (simp <;> omega))) rfl rfl rfl ?_
    rintro _ h12 ⟨rfl, rfl⟩
    refine L_yld (Y_lookset Tryd.underlying47 Tryd.underlying9 (by kernel_rfl) rfl rfl (hd1.ext ((hx2.trans hn16.ext).then' hp18.only (by simp) hx2.size))) rfl rfl rfl ?_
    refine L_yld (Y_notd rfl) rfl rfl rfl ?_
    refine La rfl rfl rfl rfl ?_
    refine L_nil (X_then ?_)
    refine W_sub _ (sk2 51 10 rfl rfl (sk8 11 39 38 9 8 4 0 40 rfl rfl rfl rfl rfl rfl rfl rfl sN)) ?_
    refine W_splitd rfl (fun v => ?_) (fun v => ?_)
    ·refine W_seq (W_region ?_)
     refine Lm rfl rfl rfl rfl ?_
     refine La rfl rfl rfl rfl ?_
     refine La rfl rfl rfl rfl ?_
     refine L_nil (X_then ?_)
     refine W_sub _ (sk3 3 2 10 rfl rfl rfl (sk8 11 39 38 9 8 4 0 40 rfl rfl rfl rfl rfl rfl rfl rfl sN)) ?_
     refine W_ret (X_block_ret (X_then_ret (X_block_ret (X_then_ret (X_then_ret (X_block_ret (X_then_ret ?_)))))))
     refine X_ret2 rfl rfl rfl ?_
     have hr := tres2 h0 g0 (by omega) (by rw [tog13 u v]; decide)
     exact ⟨by rw [hr.1, hr.2, tog13 u v], (((((hx1.then' hx3 (by simp) (Nat.le_refl _)).then' hx (by simp) (Nat.le_refl _)).trans hx2).trans hn16.ext).then' hp18.only (by simp) (Nat.le_trans (Nat.le_trans (Nat.le_trans hx1.size hx3.size) hx.size) hx2.size))⟩
    ·refine W_skip (X_block (X_then ?_))
     refine W_sub _ (sk1 10 rfl (sk8 11 39 38 9 8 4 0 40 rfl rfl rfl rfl rfl rfl rfl rfl sN)) ?_
     refine W_seq (W_region ?_)
     refine Lm rfl rfl rfl rfl ?_
     refine L_yld (Y_fieldAddr (off := 1) (by kernel_rfl) rfl rfl) rfl rfl rfl ?_
     refine L_yld (Y_ldblk Tryd.underlying9 rfl rfl hk19 rfl) rfl rfl rfl ?_
     refine L_dos (D_updset Tryd.underlying47 Tryd.underlying9 rfl rfl rfl (hs1.ext (hn16.ext.then' hp18.only (by simp) (Nat.le_refl _)))) rfl rfl ?_
     rintro h13 ⟨hx20, -, hb21⟩
     refine L_nil (X_then ?_)
     refine W_sub _ (sk1 10 rfl (sk8 11 39 38 9 8 4 0 40 rfl rfl rfl rfl rfl rfl rfl rfl sN)) ?_
     refine W_seq (W_seq (W_region ?_))
     refine L_yld (Y_fieldAddr (off := 5) (by kernel_rfl) rfl rfl) rfl rfl rfl ?_
     have hc22 := (hk19.only hx20 (ni_gt (Nat.lt_of_lt_of_le hs1.lt (Nat.le_refl _))))
     refine L_yld (Y_ldblk Tryd.underlying3 rfl rfl hc22 rfl) rfl rfl rfl ?_
     refine L_yld (Y_eql rfl rfl) rfl rfl rfl ?_
     refine L_nil (X_then ?_)
     refine W_sub _ (sk2 64 10 rfl rfl (sk8 11 39 38 9 8 4 0 40 rfl rfl rfl rfl rfl rfl rfl rfl sN)) ?_
     refine W_splitd rfl (fun c => ?_) (fun c => ?_)
     ·refine W_exit ?_
      refine X_then_exit ?_
      refine X_block_hit ?_
      refine X_then ?_
      refine W_sub _ (sk7 39 38 9 8 4 0 40 rfl rfl rfl rfl rfl rfl rfl sN) ?_
      refine W_region ?_
      refine L_yld (Y_add rfl rfl (by omega) (by omega)) rfl rfl rfl ?_
      refine Lm rfl rfl rfl rfl ?_
      refine L_nil ?_
      refine X_loop (j + 1) (sk7 39 38 9 8 4 0 40 rfl rfl rfl rfl rfl rfl rfl sN) ?_ ?_
      have hc23 := (((hm1.ext hn16.ext).only hp18.only (ni_lt (Nat.lt_of_lt_of_le hm1.lt (Nat.le_refl _)))).only hx20 (ni_gt (Nat.lt_of_lt_of_le hb13.lt (Nat.le_refl _))))
      ·exact ⟨⟨by omega, below_succ g0 (tog0 u (Classical.not_not.1 v) c)⟩, (((hx2.trans hn16.ext).then' hp18.only (by simp) hx2.size).then' hx20 (by simp) (Nat.le_refl _)), hb21, MapK.congr hc23 (fmap_zero c)⟩
      ·(try dsimp only)
       omega
     ·refine W_skip (X_then ?_)
      refine W_sub _ (sk1 10 rfl (sk8 11 39 38 9 8 4 0 40 rfl rfl rfl rfl rfl rfl rfl rfl sN)) ?_
      refine W_seq ?_
      by_cases f1 : nfirst l (at_nod l j).cls < j
      ·have hok : Bytes h13 (at_nod l (nfirst l (at_nod l j).cls)).dv (at_nod l (nfirst l (at_nod l j).cls)).data := (hl.ext ((((((hx1.then' hx3 (by simp) (Nat.le_refl _)).then' hx (by simp) (Nat.le_refl _)).trans hx2).trans hn16.ext).then' hp18.only (by simp) (Nat.le_trans (Nat.le_trans (Nat.le_trans hx1.size hx3.size) hx.size) hx2.size)).then' hx20 (by simp) (Nat.le_trans (Nat.le_trans hx1.size hx3.size) hx.size))).okat (k := nfirst l (at_nod l j).cls) (by omega)
       have hmf := hs _ (nod_mem (l := l) (k := nfirst l (at_nod l j).cls) (by omega))
       refine W_region ?_
       refine Lm rfl rfl rfl rfl ?_
       refine L_yld (Y_fieldAddr (off := 5) (by kernel_rfl) rfl rfl) rfl rfl rfl ?_
       refine L_yld (Y_ldblk Tryd.underlying3 rfl rfl hc22 rfl) rfl rfl rfl ?_
       have hg24 : mget (fmap l j) ((at_nod l ((j : Int)).toNat).cls) = some (.agg #[.int .i64 ((at_nod l (nfirst l (at_nod l j).cls)).kind), str ((at_nod l (nfirst l (at_nod l j).cls)).path), .int .i64 ((at_nod l (nfirst l (at_nod l j).cls)).mode), str ((at_nod l (nfirst l (at_nod l j).cls)).target), ((at_nod l (nfirst l (at_nod l j).cls)).dv), .int .i64 ((at_nod l (nfirst l (at_nod l j).cls)).cls)]) := by exact (mget_fmap c (i := j) (by omega)).trans (if_pos f1)
       have hc25 := (((hm1.ext hn16.ext).only hp18.only (ni_lt (Nat.lt_of_lt_of_le hm1.lt (Nat.le_refl _)))).only hx20 (ni_gt (Nat.lt_of_lt_of_le hb13.lt (Nat.le_refl _))))
       refine L_yld (Y_look2s keyI Tryd.underlying49 Tryd.underlying3 (u := (.agg #[.int .i64 0, str [], .int .i64 0, str [], .slice none 0 0, .int .i64 0])) (by kernel_rfl) rfl rfl hc25 hg24) rfl rfl rfl ?_
       refine Lm rfl rfl rfl rfl ?_
       refine L_yld (Y_extract (v := .agg #[.int .i64 ((at_nod l (nfirst l (at_nod l j).cls)).kind), str ((at_nod l (nfirst l (at_nod l j).cls)).path), .int .i64 ((at_nod l (nfirst l (at_nod l j).cls)).mode), str ((at_nod l (nfirst l (at_nod l j).cls)).target), ((at_nod l (nfirst l (at_nod l j).cls)).dv), .int .i64 ((at_nod l (nfirst l (at_nod l j).cls)).cls)]) rfl rfl) rfl rfl rfl ?_
       refine L_yld (Y_extract (v := .bool true) rfl rfl) rfl rfl rfl ?_
       refine L_mks (M_alloc (u := .agg #[.int .i64 0, str [], .int .i64 0, str [], .slice none 0 0, .int .i64 0]) (by kernel_rfl)) rfl rfl rfl ?_
       rintro _ h14 ⟨rfl, hn26⟩
       have hk27 : Blk h14 h13.size [.int .i64 0, str [], .int .i64 0, str [], .slice none 0 0, .int .i64 0] := hn26.blk
       refine L_dos (D_store (us := [.int .i64 ((at_nod l (nfirst l (at_nod l j).cls)).kind), str ((at_nod l (nfirst l (at_nod l j).cls)).path), .int .i64 ((at_nod l (nfirst l (at_nod l j).cls)).mode), str ((at_nod l (nfirst l (at_nod l j).cls)).target), ((at_nod l (nfirst l (at_nod l j).cls)).dv), .int .i64 ((at_nod l (nfirst l (at_nod l j).cls)).cls)]) (show _ = some 6 by kernel_rfl) rfl rfl rfl (by intro u_ hu_; simp only [List.mem_cons, List.not_mem_nil, or_false] at hu_; rcases hu_ with rfl | rfl | rfl | rfl | rfl | rfl <;> first | rfl | exact ((hok.ext hn26.ext)).cell1) hk27 (by simp)) rfl rfl ?_
       rintro h15 hp28
       have hk29 : Blk h15 h13.size [.int .i64 ((at_nod l (nfirst l (at_nod l j).cls)).kind), str ((at_nod l (nfirst l (at_nod l j).cls)).path), .int .i64 ((at_nod l (nfirst l (at_nod l j).cls)).mode), str ((at_nod l (nfirst l (at_nod l j).cls)).target), ((at_nod l (nfirst l (at_nod l j).cls)).dv), .int .i64 ((at_nod l (nfirst l (at_nod l j).cls)).cls)] := hp28.blk
       refine La rfl rfl rfl rfl ?_
       refine L_nil (X_then ?_)
       refine W_sub _ (sk3 13 12 10 rfl rfl rfl (sk8 11 39 38 9 8 4 0 40 rfl rfl rfl rfl rfl rfl rfl rfl sN)) ?_
       refine W_seq (W_seq (W_region ?_))
       refine Lm rfl rfl rfl rfl ?_
       refine L_yld (Y_not rfl) rfl rfl rfl ?_
       refine L_nil (X_then ?_)
       refine W_sub _ (sk3 73 12 10 rfl rfl rfl (sk8 11 39 38 9 8 4 0 40 rfl rfl rfl rfl rfl rfl rfl rfl sN)) ?_
       refine W_false rfl ?_
       refine W_skip (X_then ?_)
       refine W_sub _ (sk2 12 10 rfl rfl (sk8 11 39 38 9 8 4 0 40 rfl rfl rfl rfl rfl rfl rfl rfl sN)) ?_
       refine W_cut (S := Unit) (fun _ => [(90, .bool (decide ((¬ ((at_nod l (nfirst l (at_nod l j).cls)).mode) = ((at_nod l ((j : Int)).toNat).mode)) ∨ (¬ (((at_nod l (nfirst l (at_nod l j).cls)).data) = ((at_nod l ((j : Int)).toNat).data)))))), (10, .int .i64 ((j : Int))), (39, .int .i64 ((l.length : Int))), (38, w), (9, .map (some h8.size)), (8, .map (some h3.size)), (4, .map (some h.size)), (0, w), (40, .int .i64 ((j : Int)))]) (fun _ h' => h' = h15) ?_ ?_
       ·refine W_region ?_
        refine L_yld (Y_fieldAddr (off := 2) (by kernel_rfl) rfl rfl) rfl rfl rfl ?_
        refine L_yld (Y_ldblk Tryd.underlying3 rfl rfl hk29 rfl) rfl rfl rfl ?_
        refine L_yld (Y_fieldAddr (off := 2) (by kernel_rfl) rfl rfl) rfl rfl rfl ?_
        refine L_yld (Y_ldblk Tryd.underlying3 rfl rfl (hc22.ext (hn26.ext.then' hp28.only (by simp) (Nat.le_refl _))) rfl) rfl rfl rfl ?_
        refine L_yld (Y_neq rfl rfl) rfl rfl rfl ?_
        refine Lm rfl rfl rfl rfl ?_
        refine L_splitd (d := 83) rfl (fun c30 => ?_) (fun c30 => ?_)
        ·refine L_skip rfl rfl rfl ?_
         refine L_skip rfl rfl rfl ?_
         refine L_skip rfl rfl rfl ?_
         refine L_skip rfl rfl rfl ?_
         refine L_skip rfl rfl rfl ?_
         refine L_skip rfl rfl rfl ?_
         refine L_yld (Y_pick_t rfl rfl) rfl rfl rfl ?_
         refine L_nil ?_
         exact X_cut () (sk1 90 (lkb rfl (by first | (simp only [eq_true c30, SB]; done) | (simp only [eq_true c30, SB]; rfl))) (sk1 10 rfl (sk1 39 rfl (sk1 38 rfl (sk1 9 rfl (sk1 8 rfl (sk1 4 rfl (sk1 0 rfl (sk1 40 rfl sN))))))))) rfl
        ·refine L_yld (Y_fieldAddr (off := 4) (by kernel_rfl) rfl rfl) rfl rfl rfl ?_
         refine L_yld (Y_ldblk Tryd.underlying28 rfl rfl hk29 rfl) rfl rfl rfl ?_
         refine L_yld (Y_fieldAddr (off := 4) (by kernel_rfl) rfl rfl) rfl rfl rfl ?_
         refine L_yld (Y_ldblk Tryd.underlying28 rfl rfl (hc22.ext (hn26.ext.then' hp28.only (by simp) (Nat.le_refl _))) rfl) rfl rfl rfl ?_
         refine L_call (E_call (by kernel_rfl) rfl) (slices_EqualB _ ((at_nod l (nfirst l (at_nod l j).cls)).dv) ((at_nod l (nfirst l (at_nod l j).cls)).data) (hok.ext (hn26.ext.then' hp28.only (by simp) (Nat.le_refl _))) ((at_nod l ((j : Int)).toNat).dv) ((at_nod l ((j : Int)).toNat).data) (show Bytes _ ((at_nod l ((j : Int)).toNat).dv) ((at_nod l ((j : Int)).toNat).data) from (hl.ext ((((((((hx1.then' hx3 (by simp) (Nat.le_refl _)).then' hx (by simp) (Nat.le_refl _)).trans hx2).trans hn16.ext).then' hp18.only (by simp) (Nat.le_trans (Nat.le_trans (Nat.le_trans hx1.size hx3.size) hx.size) hx2.size)).then' hx20 (by simp) (Nat.le_trans (Nat.le_trans hx1.size hx3.size) hx.size)).trans hn26.ext).then' hp28.only (by simp) (Nat.le_trans (Nat.le_trans (Nat.le_trans (Nat.le_trans (Nat.le_trans (Nat.le_trans hx1.size hx3.size) hx.size) hx2.size) hn16.ext.size) hp18.only.size) hx20.size))).okat (k := ((j : Int)).toNat) (by omega)) (by first | omega | rfl | (simp <;> omega))) rfl rfl rfl ?_
         rintro _ h15 ⟨rfl, rfl⟩
         refine L_yld (Y_notd rfl) rfl rfl rfl ?_
         refine L_yld (Y_pick_f rfl rfl) rfl rfl rfl ?_
         refine L_nil ?_
         exact X_cut () (sk1 90 (lkb rfl (by first | (simp only [eq_false c30, SB]; done) | (simp only [eq_false c30, SB]; rfl))) (sk1 10 rfl (sk1 39 rfl (sk1 38 rfl (sk1 9 rfl (sk1 8 rfl (sk1 4 rfl (sk1 0 rfl (sk1 40 rfl sN))))))))) rfl
       rintro _ h15 rfl
       show W _ _ _ _ _ [(90, .bool (decide ((¬ ((at_nod l (nfirst l (at_nod l j).cls)).mode) = ((at_nod l ((j : Int)).toNat).mode)) ∨ (¬ (((at_nod l (nfirst l (at_nod l j).cls)).data) = ((at_nod l ((j : Int)).toNat).data)))))), (10, .int .i64 ((j : Int))), (39, .int .i64 ((l.length : Int))), (38, w), (9, .map (some h8.size)), (8, .map (some h3.size)), (4, .map (some h.size)), (0, w), (40, .int .i64 ((j : Int)))] _
       refine W_splitd rfl (fun q => ?_) (fun q => ?_)
       ·refine W_seq (W_region ?_)
        refine Lm rfl rfl rfl rfl ?_
        refine La rfl rfl rfl rfl ?_
        refine La rfl rfl rfl rfl ?_
        refine L_nil (X_then ?_)
        refine W_sub _ (sk1 3 rfl (sk8 2 39 38 9 8 4 0 40 rfl rfl rfl rfl rfl rfl rfl rfl sN)) ?_
        refine W_ret (X_block_ret (X_then_ret (X_then_ret (X_block_ret (X_then_ret ?_)))))
        refine X_ret2 rfl rfl rfl ?_
        have hr := tres2 h0 g0 (by omega) (by rw [tog15 u (Classical.not_not.1 v) c q]; decide)
        exact ⟨by rw [hr.1, hr.2, tog15 u (Classical.not_not.1 v) c q], ((((((((hx1.then' hx3 (by simp) (Nat.le_refl _)).then' hx (by simp) (Nat.le_refl _)).trans hx2).trans hn16.ext).then' hp18.only (by simp) (Nat.le_trans (Nat.le_trans (Nat.le_trans hx1.size hx3.size) hx.size) hx2.size)).then' hx20 (by simp) (Nat.le_trans (Nat.le_trans hx1.size hx3.size) hx.size)).trans hn26.ext).then' hp28.only (by simp) (Nat.le_trans (Nat.le_trans (Nat.le_trans (Nat.le_trans (Nat.le_trans (Nat.le_trans hx1.size hx3.size) hx.size) hx2.size) hn16.ext.size) hp18.only.size) hx20.size))⟩
       ·refine W_skip (X_block (X_then ?_))
        refine W_sub _ (sk7 39 38 9 8 4 0 40 rfl rfl rfl rfl rfl rfl rfl sN) ?_
        refine W_region ?_
        refine L_yld (Y_add rfl rfl (by omega) (by omega)) rfl rfl rfl ?_
        refine Lm rfl rfl rfl rfl ?_
        refine L_nil ?_
        refine X_loop (j + 1) (sk7 39 38 9 8 4 0 40 rfl rfl rfl rfl rfl rfl rfl sN) ?_ ?_
        ·exact ⟨⟨by omega, below_succ g0 (togok u (Classical.not_not.1 v) c q)⟩, (((((hx2.trans hn16.ext).then' hp18.only (by simp) hx2.size).then' hx20 (by simp) (Nat.le_refl _)).trans hn26.ext).then' hp28.only (by simp) (Nat.le_trans (Nat.le_trans (Nat.le_trans hx2.size hn16.ext.size) hp18.only.size) hx20.size)), (hb21.ext (hn26.ext.then' hp28.only (by simp) (Nat.le_refl _))), MapK.congr (hc25.ext (hn26.ext.then' hp28.only (by simp) (Nat.le_refl _))) (fmap_old c f1)⟩
        ·(try dsimp only)
         omega
      ·refine W_region ?_
       refine Lm rfl rfl rfl rfl ?_
       refine L_yld (Y_fieldAddr (off := 5) (by kernel_rfl) rfl rfl) rfl rfl rfl ?_
       refine L_yld (Y_ldblk Tryd.underlying3 rfl rfl hc22 rfl) rfl rfl rfl ?_
       have hg31 : mget (fmap l j) ((at_nod l ((j : Int)).toNat).cls) = none := by exact (mget_fmap c (i := j) (by omega)).trans (if_neg f1)
       have hc32 := (((hm1.ext hn16.ext).only hp18.only (ni_lt (Nat.lt_of_lt_of_le hm1.lt (Nat.le_refl _)))).only hx20 (ni_gt (Nat.lt_of_lt_of_le hb13.lt (Nat.le_refl _))))
       refine L_yld (Y_look2n keyI Tryd.underlying49 Tryd.underlying3 (u := (.agg #[.int .i64 0, str [], .int .i64 0, str [], .slice none 0 0, .int .i64 0])) (by kernel_rfl) rfl rfl hc32 hg31) rfl rfl rfl ?_
       refine Lm rfl rfl rfl rfl ?_
       refine L_yld (Y_extract (v := .agg #[.int .i64 0, str [], .int .i64 0, str [], .slice none 0 0, .int .i64 0]) rfl rfl) rfl rfl rfl ?_
       refine L_yld (Y_extract (v := .bool false) rfl rfl) rfl rfl rfl ?_
       refine L_mks (M_alloc (u := .agg #[.int .i64 0, str [], .int .i64 0, str [], .slice none 0 0, .int .i64 0]) (by kernel_rfl)) rfl rfl rfl ?_
       rintro _ h16 ⟨rfl, hn33⟩
       have hk34 : Blk h16 h13.size [.int .i64 0, str [], .int .i64 0, str [], .slice none 0 0, .int .i64 0] := hn33.blk
       refine L_dos (D_store (us := [.int .i64 0, str [], .int .i64 0, str [], .slice none 0 0, .int .i64 0]) (show _ = some 6 by kernel_rfl) rfl rfl rfl (by simp [Value.oneCell']) hk34 (by simp)) rfl rfl ?_
       rintro h17 hp35
       have hk36 : Blk h17 h13.size [.int .i64 0, str [], .int .i64 0, str [], .slice none 0 0, .int .i64 0] := hp35.blk
       refine La rfl rfl rfl rfl ?_
       refine L_nil (X_then ?_)
       refine W_sub _ (sk3 13 12 10 rfl rfl rfl (sk8 11 39 38 9 8 4 0 40 rfl rfl rfl rfl rfl rfl rfl rfl sN)) ?_
       refine W_seq (W_seq (W_region ?_))
       refine Lm rfl rfl rfl rfl ?_
       refine L_yld (Y_not rfl) rfl rfl rfl ?_
       refine L_nil (X_then ?_)
       refine W_sub _ (sk3 73 12 10 rfl rfl rfl (sk8 11 39 38 9 8 4 0 40 rfl rfl rfl rfl rfl rfl rfl rfl sN)) ?_
       refine W_true rfl ?_
       refine W_seq (W_region ?_)
       refine Lm rfl rfl rfl rfl ?_
       refine L_yld (Y_fieldAddr (off := 5) (by kernel_rfl) rfl rfl) rfl rfl rfl ?_
       refine L_yld (Y_ldblk Tryd.underlying3 rfl rfl (hc22.ext (hn33.ext.then' hp35.only (by simp) (Nat.le_refl _))) rfl) rfl rfl rfl ?_
       refine L_yld (Y_ldbox (us := [.int .i64 ((at_nod l ((j : Int)).toNat).kind), str ((at_nod l ((j : Int)).toNat).path), .int .i64 ((at_nod l ((j : Int)).toNat).mode), str ((at_nod l ((j : Int)).toNat).target), ((at_nod l ((j : Int)).toNat).dv), .int .i64 ((at_nod l ((j : Int)).toNat).cls)]) Tryd.underlying30 rfl (show _ = some 6 by kernel_rfl) rfl (hc22.ext (hn33.ext.then' hp35.only (by simp) (Nat.le_refl _))) rfl) rfl rfl rfl ?_
       refine L_dos (D_update keyI Tryd.underlying49 Tryd.underlying3 rfl rfl rfl (hc32.ext (hn33.ext.then' hp35.only (by simp) (Nat.le_refl _)))) rfl rfl ?_
       rintro h18 ⟨hx37, -, hb38⟩
       refine L_nil (X_then ?_)
       refine W_sub _ (sk2 12 10 rfl rfl (sk8 11 39 38 9 8 4 0 40 rfl rfl rfl rfl rfl rfl rfl rfl sN)) ?_
       refine W_exit ?_
       refine X_then_exit ?_
       refine X_block_hit ?_
       refine X_then ?_
       refine W_sub _ (sk7 39 38 9 8 4 0 40 rfl rfl rfl rfl rfl rfl rfl sN) ?_
       refine W_region ?_
       refine L_yld (Y_add rfl rfl (by omega) (by omega)) rfl rfl rfl ?_
       refine Lm rfl rfl rfl rfl ?_
       refine L_nil ?_
       refine X_loop (j + 1) (sk7 39 38 9 8 4 0 40 rfl rfl rfl rfl rfl rfl rfl sN) ?_ ?_
       have hc39 := (((hb21.ext hn33.ext).only hp35.only (ni_lt (Nat.lt_of_lt_of_le hs1.lt (Nat.le_trans (Nat.le_trans hn16.ext.size hp18.only.size) hx20.size)))).only hx37 (ni_lt (Nat.lt_of_lt_of_le hb13.lt (Nat.le_refl _))))
       ·exact ⟨⟨by omega, below_succ g0 (tognew u (Classical.not_not.1 v) (by omega) f1)⟩, ((((((hx2.trans hn16.ext).then' hp18.only (by simp) hx2.size).then' hx20 (by simp) (Nat.le_refl _)).trans hn33.ext).then' hp35.only (by simp) (Nat.le_trans (Nat.le_trans (Nat.le_trans hx2.size hn16.ext.size) hp18.only.size) hx20.size)).then' hx37 (by simp) hx12.size), hc39, MapK.congr hb38 (fmap_new c f1)⟩
       ·(try dsimp only)
        omega
  ·refine W_exit ?_
   refine X_then_exit (X_then_exit ?_)
   refine X_block_hit ?_
   refine X_then ?_
   refine W_sub _ (sk1 0 rfl sN) ?_
   refine W_seq (W_region ?_)
   refine Lm rfl rfl rfl rfl ?_
   refine L_yld (Y_lenr Tryd.underlying22 rfl (hl.ext (((hx1.then' hx3 (by simp) (Nat.le_refl _)).then' hx (by simp) (Nat.le_refl _)).trans hx2))) rfl rfl rfl ?_
   refine La rfl rfl rfl rfl ?_
   refine La rfl rfl rfl rfl ?_
   refine L_nil (X_then ?_)
   refine W_sub _ (sk2 3 2 rfl rfl sN) ?_
   refine W_ret ?_
   refine X_ret2 rfl rfl rfl ?_
   have hr := tres0 h0 (fun k hk => g0 k (by omega))
   exact ⟨by rw [hr.1, hr.2], (((hx1.then' hx3 (by simp) (Nat.le_refl _)).then' hx (by simp) (Nat.le_refl _)).trans hx2)⟩

set_option maxRecDepth 100000 in
theorem tree_Find (h : Heap) (w : Value) (l : List Nod) (hl : Rows nodS h w l) (q : List UInt8) (hn : l.length ≤ 140737488355328) : Cal Tryd.prog 14 #[w, str q] h (fun v h' => v = .tuple #[.agg #[.int .i64 ((fnode l q).kind), str ((fnode l q).path), .int .i64 ((fnode l q).mode), str ((fnode l q).target), ((fnode l q).dv), .int .i64 ((fnode l q).cls)], .bool (decide (pfirst l q < l.length))] ∧ nodS.ok h' (fnode l q) ∧ Ext h h') := by
 refine Cal_enter (args := [w, str q]) Tryd.func14 rfl rfl rfl (fun σ => ?_)
 refine W_seq (W_region ?_)
 refine L_mks (M_alloc (u := .agg #[.int .i64 0, str [], .int .i64 0, str [], .slice none 0 0, .int .i64 0]) (by kernel_rfl)) rfl rfl rfl ?_
 rintro _ h1 ⟨rfl, hn1⟩
 have hk2 : Blk h1 h.size [.int .i64 0, str [], .int .i64 0, str [], .slice none 0 0, .int .i64 0] := hn1.blk
 refine La rfl rfl rfl rfl ?_
 refine L_nil (X_then (W_seq (W_seq (W_region ?_))))
 refine Lm rfl rfl rfl rfl ?_
 refine L_yld (Y_lenr Tryd.underlying22 rfl (hl.ext hn1.ext)) rfl rfl rfl ?_
 refine Lm rfl rfl rfl rfl ?_
 refine L_nil (X_then ?_)
 refine W_sub _ (sk6 10 9 8 5 4 1 rfl rfl rfl rfl rfl rfl sN) ?_
 refine W_block ?_
 refine W_loop (S := Nat) (fun i => [(9, .int .i64 ((l.length : Int))), (8, w), (4, .pointer (some ⟨h.size, 0, none⟩)), (1, str q), (10, .int .i64 ((i : Int)))]) (fun i h' => (i ≤ l.length ∧ ∀ k, k < i → ¬ (at_nod l k).path = q) ∧ Ext h1 h') (fun i => l.length - i) 0 (sk5 9 8 4 1 10 rfl rfl rfl rfl rfl sN) ?_ ?_
 ·exact ⟨⟨by omega, fun k hk => absurd hk (Nat.not_lt_zero _)⟩, Ext.refl _⟩
 rintro i h2 ⟨⟨hi, h0⟩, hx⟩
 show W _ _ _ _ _ [(9, .int .i64 ((l.length : Int))), (8, w), (4, .pointer (some ⟨h.size, 0, none⟩)), (1, str q), (10, .int .i64 ((i : Int)))] _
 refine W_seq (W_region ?_)
 refine L_yld (Y_lss rfl rfl) rfl rfl rfl ?_
 refine L_nil (X_then (W_seq ?_))
 refine W_splitd rfl (fun hlt => ?_) (fun hlt => ?_)
 ·refine W_skip (X_then ?_)
  refine W_sub _ (sk5 9 8 4 1 10 rfl rfl rfl rfl rfl sN) ?_
  refine W_seq (W_block (W_seq (W_region ?_)))
  refine L_yld (Y_idxr Tryd.underlying22 (show _ = some 6 by kernel_rfl) rfl rfl rfl (hl.ext (hn1.ext.trans hx)) (by omega) (by omega)) rfl rfl rfl ?_
  refine L_yld (Y_ldrA0 (k := ((i : Int)).toNat) (us := [.int .i64 ((at_nod l ((i : Int)).toNat).kind), str ((at_nod l ((i : Int)).toNat).path), .int .i64 ((at_nod l ((i : Int)).toNat).mode), str ((at_nod l ((i : Int)).toNat).target), ((at_nod l ((i : Int)).toNat).dv), .int .i64 ((at_nod l ((i : Int)).toNat).cls)]) Tryd.underlying30 rfl (show _ = some 6 by kernel_rfl) rfl rfl (hl.ext (hn1.ext.trans hx)) (by omega) rfl) rfl rfl rfl ?_
  refine L_mks (M_alloc (u := .agg #[.int .i64 0, str [], .int .i64 0, str [], .slice none 0 0, .int .i64 0]) (by kernel_rfl)) rfl rfl rfl ?_
  rintro _ h3 ⟨rfl, hn3⟩
  have hk4 : Blk h3 h2.size [.int .i64 0, str [], .int .i64 0, str [], .slice none 0 0, .int .i64 0] := hn3.blk
  refine L_dos (D_store (us := [.int .i64 ((at_nod l ((i : Int)).toNat).kind), str ((at_nod l ((i : Int)).toNat).path), .int .i64 ((at_nod l ((i : Int)).toNat).mode), str ((at_nod l ((i : Int)).toNat).target), ((at_nod l ((i : Int)).toNat).dv), .int .i64 ((at_nod l ((i : Int)).toNat).cls)]) (show _ = some 6 by kernel_rfl) rfl rfl rfl (by intro u_ hu_; simp only [List.mem_cons, List.not_mem_nil, or_false] at hu_; rcases hu_ with rfl | rfl | rfl | rfl | rfl | rfl <;> first | rfl | exact ((show Bytes _ ((at_nod l ((i : Int)).toNat).dv) ((at_nod l ((i : Int)).toNat).data) from (hl.ext ((hn1.ext.trans hx).trans hn3.ext)).okat (k := ((i : Int)).toNat) (by omega))).cell1) hk4 (by simp)) rfl rfl ?_
  rintro h4 hp5
  have hk6 : Blk h4 h2.size [.int .i64 ((at_nod l ((i : Int)).toNat).kind), str ((at_nod l ((i : Int)).toNat).path), .int .i64 ((at_nod l ((i : Int)).toNat).mode), str ((at_nod l ((i : Int)).toNat).target), ((at_nod l ((i : Int)).toNat).dv), .int .i64 ((at_nod l ((i : Int)).toNat).cls)] := hp5.blk
  refine L_nil (X_then ?_)
  refine W_sub _ (sk6 7 9 8 4 1 10 rfl rfl rfl rfl rfl rfl sN) ?_
  refine W_seq (W_region ?_)
  refine L_yld (Y_fieldAddr (off := 1) (by kernel_rfl) rfl rfl) rfl rfl rfl ?_
  refine L_yld (Y_ldblk Tryd.underlying9 rfl rfl hk6 rfl) rfl rfl rfl ?_
  refine Lm rfl rfl rfl rfl ?_
  refine L_yld (Y_seql rfl rfl) rfl rfl rfl ?_
  refine L_nil (X_then ?_)
  refine W_sub _ (sk7 17 7 9 8 4 1 10 rfl rfl rfl rfl rfl rfl rfl sN) ?_
  refine W_splitd rfl (fun y => ?_) (fun y => ?_)
  ·refine W_seq (W_region ?_)
   refine L_yld (Y_ldbox (us := [.int .i64 ((at_nod l ((i : Int)).toNat).kind), str ((at_nod l ((i : Int)).toNat).path), .int .i64 ((at_nod l ((i : Int)).toNat).mode), str ((at_nod l ((i : Int)).toNat).target), ((at_nod l ((i : Int)).toNat).dv), .int .i64 ((at_nod l ((i : Int)).toNat).cls)]) Tryd.underlying30 rfl (show _ = some 6 by kernel_rfl) rfl hk6 rfl) rfl rfl rfl ?_
   refine L_dos (D_store (us := [.int .i64 ((at_nod l ((i : Int)).toNat).kind), str ((at_nod l ((i : Int)).toNat).path), .int .i64 ((at_nod l ((i : Int)).toNat).mode), str ((at_nod l ((i : Int)).toNat).target), ((at_nod l ((i : Int)).toNat).dv), .int .i64 ((at_nod l ((i : Int)).toNat).cls)]) (show _ = some 6 by kernel_rfl) rfl rfl rfl (by intro u_ hu_; simp only [List.mem_cons, List.not_mem_nil, or_false] at hu_; rcases hu_ with rfl | rfl | rfl | rfl | rfl | rfl <;> first | rfl | exact ((show Bytes _ ((at_nod l ((i : Int)).toNat).dv) ((at_nod l ((i : Int)).toNat).data) from (hl.ext (((hn1.ext.trans hx).trans hn3.ext).then' hp5.only (by simp) (Nat.le_trans hn1.ext.size hx.size))).okat (k := ((i : Int)).toNat) (by omega))).cell1) (hk2.ext ((hx.trans hn3.ext).then' hp5.only (by simp) hx.size)) (by simp)) rfl rfl ?_
   rintro h5 hp7
   have hk8 : Blk h5 h.size [.int .i64 ((at_nod l ((i : Int)).toNat).kind), str ((at_nod l ((i : Int)).toNat).path), .int .i64 ((at_nod l ((i : Int)).toNat).mode), str ((at_nod l ((i : Int)).toNat).target), ((at_nod l ((i : Int)).toNat).dv), .int .i64 ((at_nod l ((i : Int)).toNat).cls)] := hp7.blk
   refine La rfl rfl rfl rfl ?_
   refine L_nil (X_then ?_)
   refine W_sub _ (sk6 5 9 8 4 1 10 rfl rfl rfl rfl rfl rfl sN) ?_
   refine W_ret (X_block_ret (X_then_ret (X_then_ret (X_block_ret (X_then_ret ?_)))))
   refine X_retv2 rfl (RV.agg rfl Tryd.underlying30 rfl (show _ = some 6 by kernel_rfl) hk8) rfl ?_
   have hp := pfirst_eq (l := l) (q := q) (k := i) y h0 (by omega)
   have hf : fnode l q = at_nod l i := by unfold fnode; rw [if_pos (by omega), hp]
   exact ⟨by rw [hf, decide_eq_true (show pfirst l q < l.length by omega)]; rfl, by rw [hf]; exact (hl.ext ((((hn1.ext.trans hx).trans hn3.ext).then' hp5.only (by simp) (Nat.le_trans hn1.ext.size hx.size)).then' hp7.only (by simp) (Nat.le_refl _))).okat (k := i) (by omega), ((((hn1.ext.trans hx).trans hn3.ext).then' hp5.only (by simp) (Nat.le_trans hn1.ext.size hx.size)).then' hp7.only (by simp) (Nat.le_refl _))⟩
  ·refine W_skip (X_block (X_then ?_))
   refine W_sub _ (sk5 9 8 4 1 10 rfl rfl rfl rfl rfl sN) ?_
   refine W_region ?_
   refine L_yld (Y_add rfl rfl (by omega) (by omega)) rfl rfl rfl ?_
   refine Lm rfl rfl rfl rfl ?_
   refine L_nil ?_
   refine X_loop (i + 1) (sk5 9 8 4 1 10 rfl rfl rfl rfl rfl sN) ?_ ?_
   ·exact ⟨⟨by omega, step_ne h0 y⟩, ((hx.trans hn3.ext).then' hp5.only (by simp) hx.size)⟩
   ·(try dsimp only)
    omega
 ·refine W_exit ?_
  refine X_then_exit (X_then_exit ?_)
  refine X_block_hit ?_
  refine X_then ?_
  refine W_sub _ (sk1 4 rfl sN) ?_
  refine W_seq (W_region ?_)
  refine L_yld (Y_build (v := .agg #[.int .i64 0, str [], .int .i64 0, str [], .slice none 0 0, .int .i64 0]) (pv := []) (evp (is := []) (os := []) (vs := []) rfl rfl) (fun _ => by kernel_rfl)) rfl rfl rfl ?_
  refine L_dos (D_store (us := [.int .i64 0, str [], .int .i64 0, str [], .slice none 0 0, .int .i64 0]) (show _ = some 6 by kernel_rfl) rfl rfl rfl (by simp [Value.oneCell']) (hk2.ext hx) (by simp)) rfl rfl ?_
  rintro h6 hp9
  have hk10 : Blk h6 h.size [.int .i64 0, str [], .int .i64 0, str [], .slice none 0 0, .int .i64 0] := hp9.blk
  refine La rfl rfl rfl rfl ?_
  refine L_nil (X_then ?_)
  refine W_sub _ (sk2 5 4 rfl rfl sN) ?_
  refine W_ret ?_
  refine X_retv2 rfl (RV.agg rfl Tryd.underlying30 rfl (show _ = some 6 by kernel_rfl) hk10) rfl ?_
  have hp := pfirst_end (l := l) (q := q) (fun k hk => h0 k (by omega))
  have hf : fnode l q = nodS.d := by unfold fnode; rw [if_neg (by omega)]
  exact ⟨by rw [hf, decide_eq_false (show ¬ pfirst l q < l.length by omega)]; rfl, by rw [hf]; exact Bytes.nil _, ((hn1.ext.trans hx).then' hp9.only (by simp) (Nat.le_refl _))⟩
end Go.Xp
