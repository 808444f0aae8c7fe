/- Layer 13 (tree): the reference's Check, and Same. -/
import Derived.Test.YtknimfbagbkjfaaDoorTreeP
set_option linter.unusedSimpArgs false
set_option linter.unusedVariables false
set_option linter.unusedSectionVars false
namespace Go.Xp
open Go.Proofs

set_option maxRecDepth 100000 in
theorem ref13_Entry (h : Heap) (x : Nod) (hb : Bytes h x.dv x.data) (hd : x.data.length ≤ 140737488355328) : Cal Tryd.prog 42 #[.agg #[.int .i64 (x.kind), str x.path, .int .i64 (x.mode), str x.target, (x.dv), .int .i64 (x.cls)]] h (fun v h' => v = .agg #[.int .i64 (x.kind), str x.path, .int .i64 (x.mode), str x.target, .int .i64 (nsize x)] ∧ Ext h h') := by
 refine Cal_enter (args := [.agg #[.int .i64 (x.kind), str x.path, .int .i64 (x.mode), str x.target, (x.dv), .int .i64 (x.cls)]]) Tryd.func42 rfl rfl rfl (fun σ => ?_)
 refine Wr ?_
 refine L_mks (M_box rfl) rfl rfl rfl ?_
 rintro _ h1 ⟨rfl, hn1⟩
 have hk2 : Blk h1 h.size [.int .i64 (x.kind), str x.path, .int .i64 (x.mode), str x.target, (x.dv), .int .i64 (x.cls)] := hn1.blk
 refine L_mks (M_alloc (u := .agg #[.int .i64 0, str [], .int .i64 0, str [], .int .i64 0]) (by kernel_rfl)) rfl rfl rfl ?_
 rintro _ h2 ⟨rfl, hn3⟩
 have hk4 : Blk h2 h1.size [.int .i64 0, str [], .int .i64 0, str [], .int .i64 0] := hn3.blk
 refine Nx ?_
 refine W_sub _ (tk2 2 1) ?_
 refine Wr ?_
 refine Ly (Y_fieldAddr (off := 0) (by kernel_rfl) rfl rfl) ?_
 refine Ly (Y_ldblk Tryd.underlying3 rfl rfl (hk2.ext hn3.ext) rfl) ?_
 refine Ly (Y_fieldAddr (off := 1) (by kernel_rfl) rfl rfl) ?_
 refine Ly (Y_ldblk Tryd.underlying9 rfl rfl (hk2.ext hn3.ext) rfl) ?_
 refine Ly (Y_fieldAddr (off := 2) (by kernel_rfl) rfl rfl) ?_
 refine Ly (Y_ldblk Tryd.underlying3 rfl rfl (hk2.ext hn3.ext) rfl) ?_
 refine Ly (Y_fieldAddr (off := 3) (by kernel_rfl) rfl rfl) ?_
 refine Ly (Y_ldblk Tryd.underlying9 rfl rfl (hk2.ext hn3.ext) rfl) ?_
 refine Ly (Y_build (v := .agg #[.int .i64 (x.kind), str x.path, .int .i64 (x.mode), str x.target, .int .i64 0]) (pv := [(0, .int .i64 (x.kind)), (1, str x.path), (2, .int .i64 (x.mode)), (3, str x.target)]) (evp (is := [0, 1, 2, 3]) (os := [.tmp 5, .tmp 7, .tmp 9, .tmp 11]) (vs := [.int .i64 (x.kind), str x.path, .int .i64 (x.mode), str x.target]) rfl rfl) (fun _ => by kernel_rfl)) ?_
 refine L_mks (M_alloc (u := .agg #[.int .i64 0, str [], .int .i64 0, str [], .int .i64 0]) (by kernel_rfl)) rfl rfl rfl ?_
 rintro _ h3 ⟨rfl, hn5⟩
 have hk6 : Blk h3 h2.size [.int .i64 0, str [], .int .i64 0, str [], .int .i64 0] := hn5.blk
 refine L_dos (D_store (us := [.int .i64 (x.kind), str x.path, .int .i64 (x.mode), str x.target, .int .i64 0]) (show _ = some 5 by kernel_rfl) rfl rfl rfl (by simp [Value.oneCell']) hk6 (by simp)) rfl rfl ?_
 rintro h4 hp7
 have hk8 : Blk h4 h2.size [.int .i64 (x.kind), str x.path, .int .i64 (x.mode), str x.target, .int .i64 0] := hp7.blk
 refine Nx ?_
 refine W_sub _ (tk3 3 2 1) ?_
 refine W_seq (W_seq (W_region ?_))
 refine Ly (Y_fieldAddr (off := 0) (by kernel_rfl) rfl rfl) ?_
 have me1 := (hn3.ext.trans hn5.ext).then' hp7.only (by simp) hn3.ext.size
 refine Ly (Y_ldblk Tryd.underlying3 rfl rfl (hk2.ext me1) rfl) ?_
 refine Ly (Y_eql rfl rfl) ?_
 refine Nx ?_
 refine W_sub _ (tk4 15 3 2 1) ?_
 refine W_splitd rfl (fun f => ?_) (fun f => ?_)
 ·refine W_region ?_
  refine Ly (Y_fieldAddr (off := 4) (by kernel_rfl) rfl rfl) ?_
  refine Ly (Y_ldblk Tryd.underlying28 rfl rfl (hk2.ext me1) rfl) ?_
  have me2 := ((hn1.ext.trans hn3.ext).trans hn5.ext).then' hp7.only (by simp) (Nat.le_trans hn1.ext.size hn3.ext.size)
  refine Ly (Y_len Tryd.underlying28 rfl (hb.ext me2)) ?_
  refine Ly (Y_fieldAddr (off := 4) (by kernel_rfl) rfl rfl) ?_
  refine L_dos (D_store (us := [.int .i64 ((x.data.length : Int))]) (show _ = some 1 by kernel_rfl) rfl rfl rfl (by simp [Value.oneCell']) hk8 (by simp)) rfl rfl ?_
  rintro h5 hp9
  have hk10 : Blk h5 h2.size [.int .i64 (x.kind), str x.path, .int .i64 (x.mode), str x.target, .int .i64 ((x.data.length : Int))] := hp9.blk
  refine Nx ?_
  refine W_sub _ (tk2 3 2) ?_
  refine Wr ?_
  refine Ly (Y_ldbox (us := [.int .i64 (x.kind), str x.path, .int .i64 (x.mode), str x.target, .int .i64 ((x.data.length : Int))]) Tryd.underlying27 rfl (show _ = some 5 by kernel_rfl) rfl hk10 rfl) ?_
  have me3 := (hn5.ext.then' hp7.only (by simp) (Nat.le_refl _)).then' hp9.only (by simp) (Nat.le_refl _)
  refine L_dos (D_store (us := [.int .i64 (x.kind), str x.path, .int .i64 (x.mode), str x.target, .int .i64 ((x.data.length : Int))]) (show _ = some 5 by kernel_rfl) rfl rfl rfl (by simp [Value.oneCell']) (hk4.ext me3) (by simp)) rfl rfl ?_
  rintro h6 hp11
  have hk12 : Blk h6 h1.size [.int .i64 (x.kind), str x.path, .int .i64 (x.mode), str x.target, .int .i64 ((x.data.length : Int))] := hp11.blk
  refine Nx ?_
  refine W_sub _ (tk1 2) ?_
  refine W_ret ?_
  refine X_retv1 rfl (RV.agg rfl Tryd.underlying27 rfl (show _ = some 5 by kernel_rfl) hk12) ?_
  have me4 := me2.then' hp9.only (by simp) (Nat.le_trans hn1.ext.size hn3.ext.size)
  exact ⟨by unfold nsize; rw [if_pos f], (me4.then' hp11.only (by simp) hn1.ext.size)⟩
 refine Ws ?_
 refine W_sub _ (tk2 3 2) ?_
 refine Wr ?_
 refine Ly (Y_ldbox (us := [.int .i64 (x.kind), str x.path, .int .i64 (x.mode), str x.target, .int .i64 0]) Tryd.underlying27 rfl (show _ = some 5 by kernel_rfl) rfl hk8 rfl) ?_
 refine L_dos (D_store (us := [.int .i64 (x.kind), str x.path, .int .i64 (x.mode), str x.target, .int .i64 0]) (show _ = some 5 by kernel_rfl) rfl rfl rfl (by simp [Value.oneCell']) (hk4.ext (hn5.ext.then' hp7.only (by simp) (Nat.le_refl _))) (by simp)) rfl rfl ?_
 rintro h7 hp13
 have hk14 : Blk h7 h1.size [.int .i64 (x.kind), str x.path, .int .i64 (x.mode), str x.target, .int .i64 0] := hp13.blk
 refine Nx ?_
 refine W_sub _ (tk1 2) ?_
 refine W_ret ?_
 refine X_retv1 rfl (RV.agg rfl Tryd.underlying27 rfl (show _ = some 5 by kernel_rfl) hk14) ?_
 have me5 := ((hn1.ext.trans hn3.ext).trans hn5.ext).then' hp7.only (by simp) (Nat.le_trans hn1.ext.size hn3.ext.size)
 exact ⟨by unfold nsize; rw [if_neg f], (me5.then' hp13.only (by simp) hn1.ext.size)⟩
set_option maxRecDepth 100000 in
theorem ref13_one (h : Heap) (x : Nod) (hb : Bytes h x.dv x.data) (hp : x.path.length ≤ 140737488355328) (ht : x.target.length ≤ 140737488355328) (hd : x.data.length ≤ 140737488355328) : Cal Tryd.prog 58 #[.agg #[.int .i64 (x.kind), str x.path, .int .i64 (x.mode), str x.target, (x.dv), .int .i64 (x.cls)]] h (fun v h' => v = .int .i64 (tone x) ∧ Ext h h') := by
 refine Cal_enter (args := [.agg #[.int .i64 (x.kind), str x.path, .int .i64 (x.mode), str x.target, (x.dv), .int .i64 (x.cls)]]) Tryd.func58 rfl rfl rfl (fun σ => ?_)
 refine Wr ?_
 refine L_mks (M_box rfl) rfl rfl rfl ?_
 rintro _ h1 ⟨rfl, hn1⟩
 have hk2 : Blk h1 h.size [.int .i64 (x.kind), str x.path, .int .i64 (x.mode), str x.target, (x.dv), .int .i64 (x.cls)] := hn1.blk
 refine Av ?_
 refine Nx ?_
 refine W_sub _ (tk2 2 1) ?_
 refine W_seq ?_
 refine W_cut (S := Unit) (fun _ => [(11, .bool (decide ((x.kind < 0) ∨ (2 < x.kind)))), (2, .int .i64 0), (1, .pointer (some ⟨h.size, 0, none⟩))]) (fun _ h' => h' = h1) ?_ ?_
 ·refine W_region ?_
  refine Ly (Y_fieldAddr (off := 0) (by kernel_rfl) rfl rfl) ?_
  refine Ly (Y_ldblk Tryd.underlying3 rfl rfl hk2 rfl) ?_
  refine Ly (Y_lss rfl rfl) ?_
  refine Mv ?_
  refine L_splitd (d := 7) rfl (fun c3 => ?_) (fun c3 => ?_)
  ·refine Skp ?_
   refine Skp ?_
   refine Skp ?_
   refine Ly (Y_pick_t rfl rfl) ?_
   refine L_nil ?_
   exact X_cut () (sk1 11 (lkb rfl (by first | (simp only [eq_true c3, SB]; done) | (simp only [eq_true c3, SB]; rfl))) (sk1 2 rfl (tk1 1))) rfl
  refine Ly (Y_fieldAddr (off := 0) (by kernel_rfl) rfl rfl) ?_
  refine Ly (Y_ldblk Tryd.underlying3 rfl rfl hk2 rfl) ?_
  refine Ly (Y_gtr rfl rfl) ?_
  refine Ly (Y_pick_f rfl rfl) ?_
  refine L_nil ?_
  exact X_cut () (sk1 11 (lkb rfl (by first | (simp only [eq_false c3, SB]; done) | (simp only [eq_false c3, SB]; rfl))) (sk1 2 rfl (tk1 1))) rfl
 rintro _ h1 rfl
 show W _ _ _ _ _ [(11, .bool (decide ((x.kind < 0) ∨ (2 < x.kind)))), (2, .int .i64 0), (1, .pointer (some ⟨h.size, 0, none⟩))] _
 refine W_splitd rfl (fun a => ?_) (fun a => ?_)
 ·refine Wr ?_
  refine Av ?_
  refine Nx ?_
  refine W_sub _ (tk2 2 1) ?_
  refine W_ret (X_then_ret ?_)
  refine X_ret1 rfl rfl ?_
  exact ⟨by unfold tone; rw [if_pos (by omega)], hn1.ext⟩
 refine Ws ?_
 refine W_sub _ (tk2 2 1) ?_
 have hk : ¬ (x.kind < 0 ∨ 2 < x.kind) := by omega
 have hn : nfc x = fcheck x.kind x.path x.mode x.target (nsize x) := rfl
 refine Wr ?_
 refine Ly (Y_ldbox (us := [.int .i64 (x.kind), str x.path, .int .i64 (x.mode), str x.target, (x.dv), .int .i64 (x.cls)]) Tryd.underlying48 rfl (show _ = some 6 by kernel_rfl) rfl hk2 rfl) ?_
 refine L_call (E_call (by kernel_rfl) rfl) (ref13_Entry _ x (hb.ext hn1.ext) (by first | omega | rfl | (simp <;> omega))) rfl rfl rfl ?_
 rintro _ h2 ⟨rfl, hx4⟩
 refine L_call (E_call (by kernel_rfl) rfl) (ref10_Check _ x.kind x.path x.mode x.target (nsize x) (by first | omega | rfl | (simp <;> omega)) (by first | omega | rfl | (simp <;> omega))) rfl rfl rfl ?_
 rintro _ h3 ⟨rfl, hx5⟩
 refine Av ?_
 refine Nx ?_
 refine W_sub _ (tk3 3 2 1) ?_
 refine W_seq (W_seq (W_region ?_))
 refine Mv ?_
 refine Ly (Y_neq rfl rfl) ?_
 refine Nx ?_
 refine W_sub _ (tk4 16 3 2 1) ?_
 refine W_splitd rfl (fun e => ?_) (fun e => ?_)
 ·refine Wr ?_
  refine Mv ?_
  refine Av ?_
  refine Nx ?_
  refine W_sub _ (tk2 2 1) ?_
  refine W_ret (X_then_ret ?_)
  refine X_ret1 rfl rfl ?_
  exact ⟨by unfold tone; rw [if_neg hk, hn, if_pos e], ((hn1.ext.trans hx4).trans hx5)⟩
 refine Ws ?_
 refine W_sub _ (tk2 2 1) ?_
 refine W_seq ?_
 refine W_cut (S := Unit) (fun _ => [(26, .bool (decide ((¬ x.kind = 1) ∧ (0 < (x.data.length : Int))))), (2, .int .i64 0), (1, .pointer (some ⟨h.size, 0, none⟩))]) (fun _ h' => h' = h3) ?_ ?_
 ·refine W_region ?_
  refine Ly (Y_fieldAddr (off := 0) (by kernel_rfl) rfl rfl) ?_
  refine Ly (Y_ldblk Tryd.underlying3 rfl rfl (hk2.ext (hx4.trans hx5)) rfl) ?_
  refine Ly (Y_neq rfl rfl) ?_
  refine Mv ?_
  refine L_splitd (d := 21) rfl (fun c6 => ?_) (fun c6 => ?_)
  ·refine Ly (Y_fieldAddr (off := 4) (by kernel_rfl) rfl rfl) ?_
   refine Ly (Y_ldblk Tryd.underlying28 rfl rfl (hk2.ext (hx4.trans hx5)) rfl) ?_
   refine Ly (Y_len Tryd.underlying28 rfl (hb.ext ((hn1.ext.trans hx4).trans hx5))) ?_
   refine Ly (Y_gtr rfl rfl) ?_
   refine Ly (Y_pick_t rfl rfl) ?_
   refine L_nil ?_
   exact X_cut () (sk1 26 (lkb rfl (by first | (simp only [eq_true c6, SB]; done) | (simp only [eq_true c6, SB]; rfl))) (sk1 2 rfl (tk1 1))) rfl
  refine Skp ?_
  refine Skp ?_
  refine Skp ?_
  refine Skp ?_
  refine Ly (Y_pick_f rfl rfl) ?_
  refine L_nil ?_
  exact X_cut () (sk1 26 (lkb rfl (by first | (simp only [eq_false c6, SB]; done) | (simp only [eq_false c6, SB]; rfl))) (sk1 2 rfl (tk1 1))) rfl
 rintro _ h3 rfl
 show W _ _ _ _ _ [(26, .bool (decide ((¬ x.kind = 1) ∧ (0 < (x.data.length : Int))))), (2, .int .i64 0), (1, .pointer (some ⟨h.size, 0, none⟩))] _
 refine W_splitd rfl (fun g => ?_) (fun g => ?_)
 ·refine Wr ?_
  refine Av ?_
  refine Nx ?_
  refine W_sub _ (tk2 2 1) ?_
  refine W_ret (X_then_ret ?_)
  refine X_ret1 rfl rfl ?_
  exact ⟨by unfold tone; rw [if_neg hk, hn, if_neg e, if_pos ⟨g.1, by have := g.2; omega⟩], ((hn1.ext.trans hx4).trans hx5)⟩
 refine Ws ?_
 refine W_sub _ (tk2 2 1) ?_
 refine W_seq ?_
 refine W_cut (S := Unit) (fun _ => [(39, .bool (decide ((x.cls < 0) ∨ ((¬ x.kind = 1) ∧ (¬ x.cls = 0))))), (2, .int .i64 0)]) (fun _ h' => h' = h3) ?_ ?_
 ·refine W_region ?_
  refine Ly (Y_fieldAddr (off := 5) (by kernel_rfl) rfl rfl) ?_
  refine Ly (Y_ldblk Tryd.underlying3 rfl rfl (hk2.ext (hx4.trans hx5)) rfl) ?_
  refine Ly (Y_lss rfl rfl) ?_
  refine Mv ?_
  refine L_splitd (d := 30) rfl (fun c7 => ?_) (fun c7 => ?_)
  ·refine Skp ?_
   refine Skp ?_
   refine Skp ?_
   refine Skp ?_
   refine Skp ?_
   refine Skp ?_
   refine Skp ?_
   refine Skp ?_
   refine Ly (Y_pick_t rfl rfl) ?_
   refine L_nil ?_
   exact X_cut () (sk1 39 (lkb rfl (by first | (simp only [eq_true c7, SB]; done) | (simp only [eq_true c7, SB]; rfl))) (tk1 2)) rfl
  refine Ly (Y_fieldAddr (off := 0) (by kernel_rfl) rfl rfl) ?_
  refine Ly (Y_ldblk Tryd.underlying3 rfl rfl (hk2.ext (hx4.trans hx5)) rfl) ?_
  refine Ly (Y_neq rfl rfl) ?_
  refine Mv ?_
  refine L_splitd (d := 34) rfl (fun c8 => ?_) (fun c8 => ?_)
  ·refine Ly (Y_fieldAddr (off := 5) (by kernel_rfl) rfl rfl) ?_
   refine Ly (Y_ldblk Tryd.underlying3 rfl rfl (hk2.ext (hx4.trans hx5)) rfl) ?_
   refine Ly (Y_neq rfl rfl) ?_
   refine Ly (Y_pick_t rfl rfl) ?_
   refine Ly (Y_pick_f rfl rfl) ?_
   refine L_nil ?_
   exact X_cut () (sk1 39 (lkb rfl (by first | (simp only [eq_false c7, eq_true c8, SB]; done) | (simp only [eq_false c7, eq_true c8, SB]; rfl))) (tk1 2)) rfl
  refine Skp ?_
  refine Skp ?_
  refine Skp ?_
  refine Ly (Y_pick_f rfl rfl) ?_
  refine Ly (Y_pick_f rfl rfl) ?_
  refine L_nil ?_
  exact X_cut () (sk1 39 (lkb rfl (by first | (simp only [eq_false c7, eq_false c8, SB]; done) | (simp only [eq_false c7, eq_false c8, SB]; rfl))) (tk1 2)) rfl
 rintro _ h3 rfl
 show W _ _ _ _ _ [(39, .bool (decide ((x.cls < 0) ∨ ((¬ x.kind = 1) ∧ (¬ x.cls = 0))))), (2, .int .i64 0)] _
 refine W_splitd rfl (fun c => ?_) (fun c => ?_)
 ·refine Wr ?_
  refine Av ?_
  refine Nx ?_
  refine W_sub _ (tk1 2) ?_
  refine W_ret (X_then_ret ?_)
  refine X_ret1 rfl rfl ?_
  exact ⟨by unfold tone; rw [if_neg hk, hn, if_neg e, if_neg (fun e => g ⟨e.1, by have := e.2; omega⟩), if_pos c], ((hn1.ext.trans hx4).trans hx5)⟩
 refine Ws ?_
 refine W_sub _ (tk1 2) ?_
 refine Wr ?_
 refine Av ?_
 refine L_nil (X_then (W_ret ?_))
 refine X_ret1 rfl rfl ?_
 exact ⟨by unfold tone; rw [if_neg hk, hn, if_neg e, if_neg (fun e => g ⟨e.1, by have := e.2; omega⟩), if_neg c], ((hn1.ext.trans hx4).trans hx5)⟩
theorem dup_of {l : List Nod} {i k : Nat} (hk : k < i) (y : (at_nod l k).path = (at_nod l i).path) : ttog l i = 14 := by
  unfold ttog; rw [if_pos (dupb_iff.2 ⟨k, hk, y⟩)]
theorem nodup_of {l : List Nod} {i k : Nat} (hk : ¬ k < i) (h : ∀ j, j < k → ¬ (at_nod l j).path = (at_nod l i).path) : dupb l i = false := by
  rw [← Bool.not_eq_true, dupb_iff]
  rintro ⟨j, hj, e⟩
  exact h j (by omega) e
theorem tg0 {l : List Nod} {i : Nat} (hd : dupb l i = false) (hf : fnd l (pparent (at_nod l i).path) l.length = true) (c : (at_nod l i).cls = 0) : ttog l i = 0 := by
  unfold ttog; rw [hd, if_neg (by decide), hf, if_neg (by decide), if_pos c]
theorem tg15 {l : List Nod} {i f : Nat} (hd : dupb l i = false) (hf : fnd l (pparent (at_nod l i).path) l.length = true) (c : ¬ (at_nod l i).cls = 0) (hq : nfirst l (at_nod l i).cls = f) (o : ¬ (at_nod l f).mode = (at_nod l i).mode ∨ ¬ (at_nod l f).data = (at_nod l i).data) : ttog l i = 15 := by
  unfold ttog; rw [hd, if_neg (by decide), hf, if_neg (by decide), if_neg c, hq, if_pos o]
theorem tgok {l : List Nod} {i f : Nat} (hd : dupb l i = false) (hf : fnd l (pparent (at_nod l i).path) l.length = true) (c : ¬ (at_nod l i).cls = 0) (hq : nfirst l (at_nod l i).cls = f) (o : ¬ ¬ (at_nod l f).mode = (at_nod l i).mode) (q : ¬ ¬ (at_nod l f).data = (at_nod l i).data) : ttog l i = 0 := by
  unfold ttog; rw [hd, if_neg (by decide), hf, if_neg (by decide), if_neg c, hq, if_neg (fun e => e.elim o q)]
theorem fnd_zero (l : List Nod) (q : List UInt8) : fnd l q 0 = decide (q = []) := by simp [fnd]
set_option maxRecDepth 100000 in
theorem ref13_together (h : Heap) (w : Value) (l : List Nod) (hl : Rows nodS h w l) (i : Nat) (hi : i < l.length) (hn : l.length ≤ 140737488355328) (hs : ∀ x ∈ l, x.path.length ≤ 140737488355328 ∧ x.target.length ≤ 140737488355328 ∧ x.data.length ≤ 140737488355328) : Cal Tryd.prog 59 #[w, .int .i64 ((i : Int))] h (fun v h' => v = .int .i64 (ttog l i) ∧ Ext h h') := by
 refine Cal_enter (args := [w, .int .i64 ((i : Int))]) Tryd.func59 rfl rfl rfl (fun σ => ?_)
 refine Wr ?_
 refine Av ?_
 refine L_nil (X_then (W_seq (W_seq (W_region ?_))))
 refine Av ?_
 refine L_nil (X_then (W_block ?_))
 refine W_loop (S := Nat) (fun k => [(0, w), (1, .int .i64 ((i : Int))), (5, .int .i64 ((k : Int)))]) (fun k h' => k ≤ i ∧ (∀ j, j < k → ¬ (at_nod l j).path = (at_nod l i).path) ∧ h' = h) (fun k => i - k) 0 (tk3 0 1 5) ?_ ?_
 ·exact ⟨Nat.zero_le _, (fun _ hk => absurd hk (Nat.not_lt_zero _)), rfl⟩
 rintro k h ⟨hk, hkp, rfl⟩
 show W _ _ _ _ _ [(0, w), (1, .int .i64 ((i : Int))), (5, .int .i64 ((k : Int)))] _
 refine W_seq (W_seq (W_region ?_))
 refine Mv ?_
 refine Mv ?_
 refine Ly (Y_lss rfl rfl) ?_
 refine Nx ?_
 refine W_sub _ (tk4 12 0 1 5) ?_
 refine W_splitd rfl (fun hlt => ?_) (fun hlt => ?_)
 ·refine Ws ?_
  refine W_sub _ (tk3 0 1 5) ?_
  refine W_seq (W_block (W_seq ?_))
  refine W_quiet (fun h' => h' = h) (by kernel_rfl) (by kernel_rfl) rfl ?_
  refine LQ_yld (fun h_ hI_ => by subst hI_; exact Y_move rfl) rfl rfl rfl ?_
  refine LQ_yld (fun h_ hI_ => by subst hI_; exact Y_move rfl) rfl rfl rfl ?_
  refine LQ_yld (fun h_ hI_ => by subst hI_; exact Y_idxr Tryd.underlying32 (show _ = some 6 by kernel_rfl) rfl rfl rfl hl (by omega) (by omega)) rfl rfl rfl ?_
  refine LQ_yld (fun h_ hI_ => by subst hI_; exact Y_fldr (k := ((k : Int)).toNat) (off := 1) (by kernel_rfl) rfl hl (by omega)) rfl rfl rfl ?_
  refine LQ_yld (fun h_ hI_ => by subst hI_; exact Y_ldr1 (off := 1) (k := ((k : Int)).toNat) (u := str ((at_nod l ((k : Int)).toNat).path)) Tryd.underlying9 rfl rfl rfl hl (by omega) rfl) rfl rfl rfl ?_
  refine LQ_yld (fun h_ hI_ => by subst hI_; exact Y_move rfl) rfl rfl rfl ?_
  refine LQ_yld (fun h_ hI_ => by subst hI_; exact Y_move rfl) rfl rfl rfl ?_
  refine LQ_yld (fun h_ hI_ => by subst hI_; exact Y_idxr Tryd.underlying32 (show _ = some 6 by kernel_rfl) rfl rfl rfl hl (by omega) (by omega)) rfl rfl rfl ?_
  refine LQ_yld (fun h_ hI_ => by subst hI_; exact Y_fldr (k := ((i : Int)).toNat) (off := 1) (by kernel_rfl) rfl hl (by omega)) rfl rfl rfl ?_
  refine LQ_yld (fun h_ hI_ => by subst hI_; exact Y_ldr1 (off := 1) (k := ((i : Int)).toNat) (u := str ((at_nod l ((i : Int)).toNat).path)) Tryd.underlying9 rfl rfl rfl hl (by omega) rfl) rfl rfl rfl ?_
  refine LQ_yld (fun h_ hI_ => by subst hI_; exact Y_seql rfl rfl) rfl rfl rfl ?_
  refine LQ_nil ?_
  rintro h rfl
  refine X_then ?_
  refine W_sub _ (tk4 25 0 1 5) ?_
  refine W_splitd rfl (fun y => ?_) (fun y => ?_)
  ·refine Wr ?_
   refine Av ?_
   refine Nx ?_
   refine W_sub _ (tk4 4 0 1 5) ?_
   refine W_ret (X_block_ret (X_then_ret (X_then_ret (X_block_ret (X_then_ret ?_)))))
   refine X_ret1 rfl rfl ?_
   exact ⟨by rw [dup_of (k := k) (i := i) (by omega) y], (Ext.refl _)⟩
  refine W_skip (X_block (X_then ?_))
  refine W_sub _ (tk3 0 1 5) ?_
  refine W_region ?_
  refine Mv ?_
  refine Ly (Y_add rfl rfl (by omega) (by omega)) ?_
  refine Av ?_
  refine L_nil ?_
  refine X_loop (k + 1) (tk3 0 1 5) ?_ ?_
  ·exact ⟨by omega, (step_ne hkp y), rfl⟩
  (try dsimp only)
  omega
 refine W_exit ?_
 refine X_then_exit (X_then_exit ?_)
 refine X_block_hit ?_
 refine X_then ?_
 refine W_sub _ (tk2 0 1) ?_
 have hd0 := nodup_of (l := l) (i := i) (k := k) (by omega) hkp
 have hmm := hs _ (nod_mem (l := l) (k := (i : Int).toNat) (by omega))
 refine Wr ?_
 refine Mv ?_
 refine Mv ?_
 refine Ly (Y_idxr Tryd.underlying32 (show _ = some 6 by kernel_rfl) rfl rfl rfl hl (by omega) (by omega)) ?_
 refine Ly (Y_fldr (k := ((i : Int)).toNat) (off := 1) (by kernel_rfl) rfl hl (by omega)) ?_
 refine Ly (Y_ldr1 (off := 1) (k := ((i : Int)).toNat) (u := str ((at_nod l ((i : Int)).toNat).path)) Tryd.underlying9 rfl rfl rfl hl (by omega) rfl) ?_
 refine L_call (E_call (by kernel_rfl) rfl) (ref08_Parent _ ((at_nod l ((i : Int)).toNat).path) (by first | omega | rfl | (simp <;> omega))) rfl rfl rfl ?_
 rintro _ h ⟨rfl, rfl⟩
 refine Av ?_
 refine Nx ?_
 refine W_sub _ (tk3 6 0 1) ?_
 refine Wr ?_
 refine Mv ?_
 refine Ly (Y_seql rfl rfl) ?_
 refine Av ?_
 refine Nx ?_
 refine W_sub _ (tk4 7 6 0 1) ?_
 refine W_seq (W_seq (W_region ?_))
 refine Av ?_
 refine L_nil (X_then (W_block ?_))
 refine W_loop (S := Nat) (fun m => [(6, str (pparent ((at_nod l ((i : Int)).toNat).path))), (0, w), (1, .int .i64 ((i : Int))), (7, .bool (fnd l (pparent (at_nod l i).path) m)), (8, .int .i64 ((m : Int)))]) (fun m h' => m ≤ l.length ∧ h' = h) (fun m => l.length - m) 0 (sk3 6 0 1 rfl rfl rfl (sk1 7 (lkb rfl (by exact (fnd_zero l _).symm)) (tk1 8))) ?_ ?_
 ·exact ⟨Nat.zero_le _, rfl⟩
 rintro m h ⟨hm, rfl⟩
 show W _ _ _ _ _ [(6, str (pparent ((at_nod l ((i : Int)).toNat).path))), (0, w), (1, .int .i64 ((i : Int))), (7, .bool (fnd l (pparent (at_nod l i).path) m)), (8, .int .i64 ((m : Int)))] _
 refine W_seq (W_seq (W_region ?_))
 refine Mv ?_
 refine Mv ?_
 refine Ly (Y_lenr Tryd.underlying32 rfl hl) ?_
 refine Ly (Y_lss rfl rfl) ?_
 refine Nx ?_
 refine W_sub _ (tk6 37 6 0 1 7 8) ?_
 refine W_splitd rfl (fun hlt2 => ?_) (fun hlt2 => ?_)
 ·refine Ws ?_
  refine W_sub _ (tk5 6 0 1 7 8) ?_
  refine W_seq (W_block ?_)
  refine W_cut (S := Unit) (fun _ => [(54, .bool (decide ((((at_nod l ((m : Int)).toNat).kind) = 0) ∧ (((at_nod l ((m : Int)).toNat).path) = (pparent ((at_nod l ((i : Int)).toNat).path)))))), (6, str (pparent ((at_nod l ((i : Int)).toNat).path))), (0, w), (1, .int .i64 ((i : Int))), (7, .bool (fnd l (pparent (at_nod l i).path) m)), (8, .int .i64 ((m : Int)))]) (fun _ h' => h' = h) ?_ ?_
  ·refine W_region ?_
   refine Mv ?_
   refine Mv ?_
   refine Ly (Y_idxr Tryd.underlying32 (show _ = some 6 by kernel_rfl) rfl rfl rfl hl (by omega) (by omega)) ?_
   refine Ly (Y_fldr (k := ((m : Int)).toNat) (off := 0) (by kernel_rfl) rfl hl (by omega)) ?_
   refine Ly (Y_ldr1 (off := 0) (k := ((m : Int)).toNat) (u := .int .i64 ((at_nod l ((m : Int)).toNat).kind)) Tryd.underlying3 rfl rfl rfl hl (by omega) rfl) ?_
   refine Ly (Y_eql rfl rfl) ?_
   refine Mv ?_
   refine L_splitd (d := 46) rfl (fun c1 => ?_) (fun c1 => ?_)
   ·refine Ly (Y_move rfl) ?_
    refine Mv ?_
    refine Ly (Y_idxr Tryd.underlying32 (show _ = some 6 by kernel_rfl) rfl rfl rfl hl (by omega) (by omega)) ?_
    refine Ly (Y_fldr (k := ((m : Int)).toNat) (off := 1) (by kernel_rfl) rfl hl (by omega)) ?_
    refine Ly (Y_ldr1 (off := 1) (k := ((m : Int)).toNat) (u := str ((at_nod l ((m : Int)).toNat).path)) Tryd.underlying9 rfl rfl rfl hl (by omega) rfl) ?_
    refine Mv ?_
    refine Ly (Y_seql rfl rfl) ?_
    refine Ly (Y_pick_t rfl rfl) ?_
    refine L_nil ?_
    exact X_cut () (sk1 54 (lkb rfl (by first | (simp only [eq_true c1, SB]; done) | (simp only [eq_true c1, SB]; rfl))) (sk1 6 rfl (sk1 0 rfl (sk1 1 rfl (sk1 7 rfl (tk1 8)))))) rfl
   refine Skp ?_
   refine Skp ?_
   refine Skp ?_
   refine Skp ?_
   refine Skp ?_
   refine Skp ?_
   refine Skp ?_
   refine Ly (Y_pick_f rfl rfl) ?_
   refine L_nil ?_
   exact X_cut () (sk1 54 (lkb rfl (by first | (simp only [eq_false c1, SB]; done) | (simp only [eq_false c1, SB]; rfl))) (sk1 6 rfl (sk1 0 rfl (sk1 1 rfl (sk1 7 rfl (tk1 8)))))) rfl
  rintro _ h rfl
  show W _ _ _ _ _ [(54, .bool (decide ((((at_nod l ((m : Int)).toNat).kind) = 0) ∧ (((at_nod l ((m : Int)).toNat).path) = (pparent ((at_nod l ((i : Int)).toNat).path)))))), (6, str (pparent ((at_nod l ((i : Int)).toNat).path))), (0, w), (1, .int .i64 ((i : Int))), (7, .bool (fnd l (pparent (at_nod l i).path) m)), (8, .int .i64 ((m : Int)))] _
  refine W_splitd rfl (fun z => ?_) (fun z => ?_)
  ·refine W_region ?_
   refine Av ?_
   refine L_nil (X_block (X_then ?_))
   refine W_sub _ (tk5 7 6 0 1 8) ?_
   refine W_region ?_
   refine Mv ?_
   refine Ly (Y_add rfl rfl (by omega) (by omega)) ?_
   refine Av ?_
   refine L_nil ?_
   refine X_loop (m + 1) (sk3 6 0 1 rfl rfl rfl (sk1 7 (lkb rfl (by rw [fnd_succ, decide_eq_true (p := (at_nod l m).kind = 0 ∧ (at_nod l m).path = pparent (at_nod l i).path) z, Bool.or_true])) (tk1 8))) ?_ ?_
   ·exact ⟨by omega, rfl⟩
   (try dsimp only)
   omega
  refine W_skip (X_block (X_then ?_))
  refine W_sub _ (tk5 6 0 1 7 8) ?_
  refine W_region ?_
  refine Mv ?_
  refine Ly (Y_add rfl rfl (by omega) (by omega)) ?_
  refine Av ?_
  refine L_nil ?_
  refine X_loop (m + 1) (sk3 6 0 1 rfl rfl rfl (sk1 7 (lkb rfl (by rw [fnd_succ, decide_eq_false (p := (at_nod l m).kind = 0 ∧ (at_nod l m).path = pparent (at_nod l i).path) z, Bool.or_false])) (tk1 8))) ?_ ?_
  ·exact ⟨by omega, rfl⟩
  (try dsimp only)
  omega
 refine W_exit ?_
 refine X_then_exit (X_then_exit ?_)
 refine X_block_hit ?_
 refine X_then ?_
 refine W_sub _ (tk3 0 1 7) ?_
 obtain rfl : m = l.length := by omega
 refine W_seq (W_seq (W_region ?_))
 refine Mv ?_
 refine Ly (Y_not rfl) ?_
 refine Nx ?_
 refine W_sub _ (tk3 56 0 1) ?_
 refine W_split rfl (fun n1 => ?_) (fun n1 => ?_)
 ·refine Wr ?_
  refine Av ?_
  refine Nx ?_
  refine W_sub _ (tk3 4 0 1) ?_
  refine W_ret (X_then_ret ?_)
  refine X_ret1 rfl rfl ?_
  exact ⟨by unfold ttog; rw [hd0, if_neg (by decide), if_pos (by simpa using n1)], (Ext.refl _)⟩
 refine Ws ?_
 refine W_sub _ (tk2 0 1) ?_
 have hf1 : fnd l (pparent (at_nod l i).path) l.length = true := by simpa using n1
 refine W_seq (W_seq (W_region ?_))
 refine Mv ?_
 refine Mv ?_
 refine Ly (Y_idxr Tryd.underlying32 (show _ = some 6 by kernel_rfl) rfl rfl rfl hl (by omega) (by omega)) ?_
 refine Ly (Y_fldr (k := ((i : Int)).toNat) (off := 5) (by kernel_rfl) rfl hl (by omega)) ?_
 refine Ly (Y_ldr1 (off := 5) (k := ((i : Int)).toNat) (u := .int .i64 ((at_nod l ((i : Int)).toNat).cls)) Tryd.underlying3 rfl rfl rfl hl (by omega) rfl) ?_
 refine Ly (Y_eql rfl rfl) ?_
 refine Nx ?_
 refine W_sub _ (tk3 62 0 1) ?_
 refine W_splitd rfl (fun c => ?_) (fun c => ?_)
 ·refine Wr ?_
  refine Av ?_
  refine Nx ?_
  refine W_sub _ (tk3 4 0 1) ?_
  refine W_ret (X_then_ret ?_)
  refine X_ret1 rfl rfl ?_
  exact ⟨by rw [tg0 (i := i) hd0 hf1 c], (Ext.refl _)⟩
 refine Ws ?_
 refine W_sub _ (tk2 0 1) ?_
 refine Wr ?_
 refine Av ?_
 refine L_nil (X_then (W_seq (W_block ?_)))
 refine W_loop (S := Nat) (fun f => [(0, w), (1, .int .i64 ((i : Int))), (9, .int .i64 ((f : Int)))]) (fun f h' => (f ≤ i ∧ ∀ j, j < f → ¬ (at_nod l j).cls = (at_nod l i).cls) ∧ h' = h) (fun f => i - f) 0 (tk3 0 1 9) ?_ ?_
 ·exact ⟨⟨Nat.zero_le _, fun _ hk => absurd hk (Nat.not_lt_zero _)⟩, rfl⟩
 rintro f h ⟨⟨hf, hfp⟩, rfl⟩
 show W _ _ _ _ _ [(0, w), (1, .int .i64 ((i : Int))), (9, .int .i64 ((f : Int)))] _
 refine W_seq (W_seq ?_)
 refine W_quiet (fun h' => h' = h) (by kernel_rfl) (by kernel_rfl) rfl ?_
 refine LQ_yld (fun h_ hI_ => by subst hI_; exact Y_move rfl) rfl rfl rfl ?_
 refine LQ_yld (fun h_ hI_ => by subst hI_; exact Y_move rfl) rfl rfl rfl ?_
 refine LQ_yld (fun h_ hI_ => by subst hI_; exact Y_idxr Tryd.underlying32 (show _ = some 6 by kernel_rfl) rfl rfl rfl hl (by omega) (by omega)) rfl rfl rfl ?_
 refine LQ_yld (fun h_ hI_ => by subst hI_; exact Y_fldr (k := ((f : Int)).toNat) (off := 5) (by kernel_rfl) rfl hl (by omega)) rfl rfl rfl ?_
 refine LQ_yld (fun h_ hI_ => by subst hI_; exact Y_ldr1 (off := 5) (k := ((f : Int)).toNat) (u := .int .i64 ((at_nod l ((f : Int)).toNat).cls)) Tryd.underlying3 rfl rfl rfl hl (by omega) rfl) rfl rfl rfl ?_
 refine LQ_yld (fun h_ hI_ => by subst hI_; exact Y_move rfl) rfl rfl rfl ?_
 refine LQ_yld (fun h_ hI_ => by subst hI_; exact Y_move rfl) rfl rfl rfl ?_
 refine LQ_yld (fun h_ hI_ => by subst hI_; exact Y_idxr Tryd.underlying32 (show _ = some 6 by kernel_rfl) rfl rfl rfl hl (by omega) (by omega)) rfl rfl rfl ?_
 refine LQ_yld (fun h_ hI_ => by subst hI_; exact Y_fldr (k := ((i : Int)).toNat) (off := 5) (by kernel_rfl) rfl hl (by omega)) rfl rfl rfl ?_
 refine LQ_yld (fun h_ hI_ => by subst hI_; exact Y_ldr1 (off := 5) (k := ((i : Int)).toNat) (u := .int .i64 ((at_nod l ((i : Int)).toNat).cls)) Tryd.underlying3 rfl rfl rfl hl (by omega) rfl) rfl rfl rfl ?_
 refine LQ_yld (fun h_ hI_ => by subst hI_; exact Y_neq rfl rfl) rfl rfl rfl ?_
 refine LQ_nil ?_
 rintro h rfl
 refine X_then ?_
 refine W_sub _ (tk4 73 0 1 9) ?_
 refine W_splitd rfl (fun r => ?_) (fun r => ?_)
 ·refine Ws ?_
  refine W_sub _ (tk3 0 1 9) ?_
  have hfi : f ≠ i := fun e => r (by rw [e])
  refine W_block (W_region ?_)
  refine Mv ?_
  refine Ly (Y_add rfl rfl (by omega) (by omega)) ?_
  refine Av ?_
  refine L_nil (X_block ?_)
  refine X_loop (f + 1) (tk3 0 1 9) ?_ ?_
  ·exact ⟨⟨by omega, step_ne hfp r⟩, rfl⟩
  (try dsimp only)
  omega
 refine W_exit ?_
 refine X_then_exit (X_then_exit ?_)
 refine X_block_hit ?_
 refine X_then ?_
 refine W_sub _ (tk3 0 1 9) ?_
 have hq := nfirst_eq (l := l) (k := f) (Classical.not_not.1 r) hfp (by omega)
 refine W_seq (W_seq ?_)
 refine W_quiet (fun h' => h' = h) (by kernel_rfl) (by kernel_rfl) rfl ?_
 refine LQ_yld (fun h_ hI_ => by subst hI_; exact Y_move rfl) rfl rfl rfl ?_
 refine LQ_yld (fun h_ hI_ => by subst hI_; exact Y_move rfl) rfl rfl rfl ?_
 refine LQ_yld (fun h_ hI_ => by subst hI_; exact Y_idxr Tryd.underlying32 (show _ = some 6 by kernel_rfl) rfl rfl rfl hl (by omega) (by omega)) rfl rfl rfl ?_
 refine LQ_yld (fun h_ hI_ => by subst hI_; exact Y_fldr (k := ((f : Int)).toNat) (off := 2) (by kernel_rfl) rfl hl (by omega)) rfl rfl rfl ?_
 refine LQ_yld (fun h_ hI_ => by subst hI_; exact Y_ldr1 (off := 2) (k := ((f : Int)).toNat) (u := .int .i64 ((at_nod l ((f : Int)).toNat).mode)) Tryd.underlying3 rfl rfl rfl hl (by omega) rfl) rfl rfl rfl ?_
 refine LQ_yld (fun h_ hI_ => by subst hI_; exact Y_move rfl) rfl rfl rfl ?_
 refine LQ_yld (fun h_ hI_ => by subst hI_; exact Y_move rfl) rfl rfl rfl ?_
 refine LQ_yld (fun h_ hI_ => by subst hI_; exact Y_idxr Tryd.underlying32 (show _ = some 6 by kernel_rfl) rfl rfl rfl hl (by omega) (by omega)) rfl rfl rfl ?_
 refine LQ_yld (fun h_ hI_ => by subst hI_; exact Y_fldr (k := ((i : Int)).toNat) (off := 2) (by kernel_rfl) rfl hl (by omega)) rfl rfl rfl ?_
 refine LQ_yld (fun h_ hI_ => by subst hI_; exact Y_ldr1 (off := 2) (k := ((i : Int)).toNat) (u := .int .i64 ((at_nod l ((i : Int)).toNat).mode)) Tryd.underlying3 rfl rfl rfl hl (by omega) rfl) rfl rfl rfl ?_
 refine LQ_yld (fun h_ hI_ => by subst hI_; exact Y_neq rfl rfl) rfl rfl rfl ?_
 refine LQ_yld (fun h_ hI_ => by subst hI_; exact Y_move rfl) rfl rfl rfl ?_
 refine LQ_splitd (d := 87) rfl (fun o => ?_) (fun o => ?_)
 ·refine LQ_skip rfl rfl rfl ?_
  refine LQ_skip rfl rfl rfl ?_
  refine LQ_skip rfl rfl rfl ?_
  refine LQ_skip rfl rfl rfl ?_
  refine LQ_skip rfl rfl rfl ?_
  refine LQ_skip rfl rfl rfl ?_
  refine LQ_skip rfl rfl rfl ?_
  refine LQ_skip rfl rfl rfl ?_
  refine LQ_skip rfl rfl rfl ?_
  refine LQ_skip rfl rfl rfl ?_
  refine LQ_skip rfl rfl rfl ?_
  refine LQ_skip rfl rfl rfl ?_
  refine LQ_skip rfl rfl rfl ?_
  refine LQ_yld (fun h_ hI_ => by subst hI_; exact Y_pick_t rfl rfl) rfl rfl rfl ?_
  refine LQ_nil ?_
  rintro h rfl
  refine X_then ?_
  refine W_sub _ (tk1 101) ?_
  refine W_true rfl ?_
  refine Wr ?_
  refine Av ?_
  refine Nx ?_
  refine W_sub _ (tk1 4) ?_
  refine W_ret (X_then_ret ?_)
  refine X_ret1 rfl rfl ?_
  exact ⟨by rw [tg15 (i := i) hd0 hf1 c hq (.inl o)], (Ext.refl _)⟩
 refine LQ_yld (fun h_ hI_ => by subst hI_; exact Y_move rfl) rfl rfl rfl ?_
 refine LQ_yld (fun h_ hI_ => by subst hI_; exact Y_move rfl) rfl rfl rfl ?_
 refine LQ_yld (fun h_ hI_ => by subst hI_; exact Y_idxr Tryd.underlying32 (show _ = some 6 by kernel_rfl) rfl rfl rfl hl (by omega) (by omega)) rfl rfl rfl ?_
 refine LQ_yld (fun h_ hI_ => by subst hI_; exact Y_fldr (k := ((f : Int)).toNat) (off := 4) (by kernel_rfl) rfl hl (by omega)) rfl rfl rfl ?_
 refine LQ_yld (fun h_ hI_ => by subst hI_; exact Y_ldr1 (off := 4) (k := ((f : Int)).toNat) (u := ((at_nod l ((f : Int)).toNat).dv)) Tryd.underlying28 rfl rfl rfl hl (by omega) rfl) rfl rfl rfl ?_
 refine LQ_yld (fun h_ hI_ => by subst hI_; exact Y_bytes_str Tryd.underlying28 Tryd.underlying5 Tryd.underlying9 rfl (show Bytes _ ((at_nod l ((f : Int)).toNat).dv) ((at_nod l ((f : Int)).toNat).data) from hl.okat (k := ((f : Int)).toNat) (by omega))) rfl rfl rfl ?_
 refine LQ_yld (fun h_ hI_ => by subst hI_; exact Y_move rfl) rfl rfl rfl ?_
 refine LQ_yld (fun h_ hI_ => by subst hI_; exact Y_move rfl) rfl rfl rfl ?_
 refine LQ_yld (fun h_ hI_ => by subst hI_; exact Y_idxr Tryd.underlying32 (show _ = some 6 by kernel_rfl) rfl rfl rfl hl (by omega) (by omega)) rfl rfl rfl ?_
 refine LQ_yld (fun h_ hI_ => by subst hI_; exact Y_fldr (k := ((i : Int)).toNat) (off := 4) (by kernel_rfl) rfl hl (by omega)) rfl rfl rfl ?_
 refine LQ_yld (fun h_ hI_ => by subst hI_; exact Y_ldr1 (off := 4) (k := ((i : Int)).toNat) (u := ((at_nod l ((i : Int)).toNat).dv)) Tryd.underlying28 rfl rfl rfl hl (by omega) rfl) rfl rfl rfl ?_
 refine LQ_yld (fun h_ hI_ => by subst hI_; exact Y_bytes_str Tryd.underlying28 Tryd.underlying5 Tryd.underlying9 rfl (show Bytes _ ((at_nod l ((i : Int)).toNat).dv) ((at_nod l ((i : Int)).toNat).data) from hl.okat (k := ((i : Int)).toNat) (by omega))) rfl rfl rfl ?_
 refine LQ_yld (fun h_ hI_ => by subst hI_; exact Y_sneq rfl rfl) rfl rfl rfl ?_
 refine LQ_yld (fun h_ hI_ => by subst hI_; exact Y_pick_f rfl rfl) rfl rfl rfl ?_
 refine LQ_nil ?_
 rintro h rfl
 refine X_then ?_
 refine W_sub _ (tk1 101) ?_
 refine W_splitd rfl (fun q => ?_) (fun q => ?_)
 ·refine Wr ?_
  refine Av ?_
  refine Nx ?_
  refine W_sub _ (tk1 4) ?_
  refine W_ret (X_then_ret ?_)
  refine X_ret1 rfl rfl ?_
  exact ⟨by rw [tg15 (i := i) hd0 hf1 c hq (.inr q)], (Ext.refl _)⟩
 refine Ws ?_
 refine W_sub _ sN ?_
 refine Wr ?_
 refine Av ?_
 refine L_nil (X_then (W_ret ?_))
 refine X_ret1 rfl rfl ?_
 exact ⟨by rw [tgok (i := i) hd0 hf1 c hq o q], (Ext.refl _)⟩
set_option maxRecDepth 100000 in
theorem ref13_Check (h : Heap) (w : Value) (l : List Nod) (hl : Rows nodS h w l) (hn : l.length ≤ 140737488355328) (hs : ∀ x ∈ l, x.path.length ≤ 140737488355328 ∧ x.target.length ≤ 140737488355328 ∧ x.data.length ≤ 140737488355328) : Cal Tryd.prog 41 #[w] h (fun v h' => v = .tuple #[.int .i64 (tpos l), .int .i64 (terr l)] ∧ Ext h h') := by
 refine Cal_enter (args := [w]) Tryd.func41 rfl rfl rfl (fun σ => ?_)
 refine Wr ?_
 refine Av ?_
 refine Av ?_
 refine L_nil (X_then (W_seq (W_seq (W_region ?_))))
 refine Av ?_
 refine L_nil (X_then (W_block ?_))
 refine W_loop (S := Nat) (fun i => [(0, w), (4, .int .i64 ((i : Int)))]) (fun i h' => (i ≤ l.length ∧ ∀ k, k < i → tone (at_nod l k) = 0) ∧ Ext h h') (fun i => l.length - i) 0 (tk2 0 4) ?_ ?_
 ·exact ⟨⟨by omega, fun k hk => absurd hk (Nat.not_lt_zero _)⟩, Ext.refl _⟩
 rintro i h1 ⟨⟨hi, h0⟩, hx⟩
 show W _ _ _ _ _ [(0, w), (4, .int .i64 ((i : Int)))] _
 refine W_seq (W_seq (W_region ?_))
 refine Mv ?_
 refine Mv ?_
 refine Ly (Y_lenr Tryd.underlying32 rfl (hl.ext hx)) ?_
 refine Ly (Y_lss rfl rfl) ?_
 refine Nx ?_
 refine W_sub _ (tk3 11 0 4) ?_
 refine W_splitd rfl (fun hlt => ?_) (fun hlt => ?_)
 ·refine Ws ?_
  refine W_sub _ (tk2 0 4) ?_
  have hmm := hs _ (nod_mem (l := l) (k := (i : Int).toNat) (by omega))
  refine W_seq (W_block (W_seq (W_region ?_)))
  refine Mv ?_
  refine Mv ?_
  refine Ly (Y_idxr Tryd.underlying32 (show _ = some 6 by kernel_rfl) rfl rfl rfl (hl.ext hx) (by omega) (by omega)) ?_
  refine Ly (Y_ldrA0 (k := ((i : Int)).toNat) (us := [.int .i64 ((at_nod l ((i : Int)).toNat).kind), str ((at_nod l ((i : Int)).toNat).path), .int .i64 ((at_nod l ((i : Int)).toNat).mode), str ((at_nod l ((i : Int)).toNat).target), ((at_nod l ((i : Int)).toNat).dv), .int .i64 ((at_nod l ((i : Int)).toNat).cls)]) Tryd.underlying48 rfl (show _ = some 6 by kernel_rfl) rfl rfl (hl.ext hx) (by omega) rfl) ?_
  refine L_call (E_call (by kernel_rfl) rfl) (ref13_one _ (at_nod l ((i : Int)).toNat) (show Bytes _ ((at_nod l ((i : Int)).toNat).dv) ((at_nod l ((i : Int)).toNat).data) from (hl.ext hx).okat (k := ((i : Int)).toNat) (by omega)) (by first | omega | rfl | (simp <;> omega)) (by first | omega | rfl | (simp <;> omega)) (by first | omega | rfl | (simp <;> omega))) rfl rfl rfl ?_
  rintro _ h2 ⟨rfl, hx1⟩
  refine Av ?_
  refine Nx ?_
  refine W_sub _ (tk3 5 0 4) ?_
  refine Wr ?_
  refine Mv ?_
  refine Ly (Y_neq rfl rfl) ?_
  refine Nx ?_
  refine W_sub _ (tk4 20 5 0 4) ?_
  refine W_splitd rfl (fun e => ?_) (fun e => ?_)
  ·refine Wr ?_
   refine Mv ?_
   refine Mv ?_
   refine Av ?_
   refine Av ?_
   refine Nx ?_
   refine W_sub _ (tk4 3 2 0 4) ?_
   refine W_ret (X_block_ret (X_then_ret (X_then_ret (X_block_ret (X_then_ret ?_)))))
   refine X_ret2 rfl rfl rfl ?_
   have hr := tres1 (l := l) (i := i) h0 (by omega) e
   exact ⟨by rw [hr.1, hr.2]; rfl, (hx.trans hx1)⟩
  refine W_skip (X_block (X_then ?_))
  refine W_sub _ (tk2 0 4) ?_
  refine W_region ?_
  refine Mv ?_
  refine Ly (Y_add rfl rfl (by omega) (by omega)) ?_
  refine Av ?_
  refine L_nil ?_
  refine X_loop (i + 1) (tk2 0 4) ?_ ?_
  ·exact ⟨⟨by omega, below_succ (f := fun i => tone (at_nod l i)) h0 (Classical.not_not.1 e)⟩, (hx.trans hx1)⟩
  (try dsimp only)
  omega
 refine W_exit ?_
 refine X_then_exit (X_then_exit ?_)
 refine X_block_hit ?_
 refine X_then ?_
 refine W_sub _ (tk1 0) ?_
 obtain rfl : i = l.length := by omega
 refine W_seq (W_seq (W_region ?_))
 refine Av ?_
 refine L_nil (X_then (W_block ?_))
 refine W_loop (S := Nat) (fun j => [(0, w), (6, .int .i64 ((j : Int)))]) (fun j h' => (j ≤ l.length ∧ ∀ k, k < j → ttog l k = 0) ∧ Ext h1 h') (fun j => l.length - j) 0 (tk2 0 6) ?_ ?_
 ·exact ⟨⟨by omega, fun k hk => absurd hk (Nat.not_lt_zero _)⟩, Ext.refl _⟩
 rintro j h3 ⟨⟨hj, g0⟩, hxb⟩
 show W _ _ _ _ _ [(0, w), (6, .int .i64 ((j : Int)))] _
 refine W_seq (W_seq (W_region ?_))
 refine Mv ?_
 refine Mv ?_
 refine Ly (Y_lenr Tryd.underlying32 rfl (hl.ext (hx.trans hxb))) ?_
 refine Ly (Y_lss rfl rfl) ?_
 refine Nx ?_
 refine W_sub _ (tk3 26 0 6) ?_
 refine W_splitd rfl (fun hlt2 => ?_) (fun hlt2 => ?_)
 ·refine Ws ?_
  refine W_sub _ (tk2 0 6) ?_
  refine W_seq (W_block (W_seq (W_region ?_)))
  refine Mv ?_
  refine Mv ?_
  refine L_call (E_call (by kernel_rfl) rfl) (ref13_together _ w l (hl.ext (hx.trans hxb)) j (by omega) hn hs) rfl rfl rfl ?_
  rintro _ h4 ⟨rfl, hx2⟩
  refine Av ?_
  refine Nx ?_
  refine W_sub _ (tk3 7 0 6) ?_
  refine Wr ?_
  refine Mv ?_
  refine Ly (Y_neq rfl rfl) ?_
  refine Nx ?_
  refine W_sub _ (tk4 33 7 0 6) ?_
  refine W_splitd rfl (fun e => ?_) (fun e => ?_)
  ·refine Wr ?_
   refine Mv ?_
   refine Mv ?_
   refine Av ?_
   refine Av ?_
   refine Nx ?_
   refine W_sub _ (tk4 3 2 0 6) ?_
   refine W_ret (X_block_ret (X_then_ret (X_then_ret (X_block_ret (X_then_ret ?_)))))
   refine X_ret2 rfl rfl rfl ?_
   have hr := tres2 h0 g0 (by omega) e
   exact ⟨by rw [hr.1, hr.2], ((hx.trans hxb).trans hx2)⟩
  refine W_skip (X_block (X_then ?_))
  refine W_sub _ (tk2 0 6) ?_
  refine W_region ?_
  refine Mv ?_
  refine Ly (Y_add rfl rfl (by omega) (by omega)) ?_
  refine Av ?_
  refine L_nil ?_
  refine X_loop (j + 1) (tk2 0 6) ?_ ?_
  ·exact ⟨⟨by omega, below_succ g0 (Classical.not_not.1 e)⟩, (hxb.trans hx2)⟩
  (try dsimp only)
  omega
 refine W_exit ?_
 refine X_then_exit (X_then_exit ?_)
 refine X_block_hit ?_
 refine X_then ?_
 refine W_sub _ (tk1 0) ?_
 refine Wr ?_
 refine Mv ?_
 refine Ly (Y_lenr Tryd.underlying32 rfl (hl.ext (hx.trans hxb))) ?_
 refine Av ?_
 refine Av ?_
 refine Nx ?_
 refine W_sub _ (tk2 3 2) ?_
 refine W_ret ?_
 refine X_ret2 rfl rfl rfl ?_
 have hr := tres0 h0 (fun k hk => g0 k (by omega))
 exact ⟨by rw [hr.1, hr.2], (hx.trans hxb)⟩
/-- Two nodes are the same, but for where their data lie. -/
def nsame (x y : Nod) : Prop := ((((x.kind = y.kind ∧ x.path = y.path) ∧ x.mode = y.mode) ∧ x.target = y.target) ∧ x.cls = y.cls) ∧ x.data = y.data
instance (x y : Nod) : Decidable (nsame x y) := by unfold nsame; infer_instance
def lsame (a b : List Nod) : Bool := decide (a.length = b.length) && (List.range a.length).all fun k => decide (nsame (at_nod a k) (at_nod b k))
theorem lsame_iff {a b : List Nod} : lsame a b = true ↔ a.length = b.length ∧ ∀ k, k < a.length → nsame (at_nod a k) (at_nod b k) := by
  unfold lsame; rw [Bool.and_eq_true, decide_eq_true_eq, List.all_eq_true]
  constructor
  · rintro ⟨h, h2⟩; exact ⟨h, fun k hk => of_decide_eq_true (h2 k (List.mem_range.2 hk))⟩
  · rintro ⟨h, h2⟩; exact ⟨h, fun k hk => decide_eq_true (h2 k (List.mem_range.1 hk))⟩
theorem lsame_false {a b : List Nod} (h : ¬ (a.length = b.length ∧ ∀ k, k < a.length → nsame (at_nod a k) (at_nod b k))) : lsame a b = false := by
  rw [← Bool.not_eq_true, lsame_iff]; exact h
set_option maxRecDepth 100000 in
theorem ref13_Same (h : Heap) (v : Value) (a : List Nod) (ha : Rows nodS h v a) (u : Value) (b : List Nod) (hb : Rows nodS h u b) (hl0 : a.length ≤ 140737488355328) : Cal Tryd.prog 20 #[v, u] h (fun v h' => v = .bool (lsame a b) ∧ Ext h h') := by
 refine Cal_enter (args := [v, u]) Tryd.func20 rfl rfl rfl (fun σ => ?_)
 refine Wr ?_
 refine Av ?_
 refine L_nil (X_then (W_seq (W_seq (W_region ?_))))
 refine Mv ?_
 refine Ly (Y_lenr Tryd.underlying32 rfl ha) ?_
 refine Mv ?_
 refine Ly (Y_lenr Tryd.underlying32 rfl hb) ?_
 refine Ly (Y_neq rfl rfl) ?_
 refine Nx ?_
 refine W_sub _ (tk4 12 4 0 1) ?_
 refine W_splitd rfl (fun c => ?_) (fun c => ?_)
 ·refine Wr ?_
  refine Av ?_
  refine Nx ?_
  refine W_sub _ (tk3 4 0 1) ?_
  refine W_ret (X_then_ret ?_)
  refine X_ret1 rfl rfl ?_
  exact ⟨by rw [lsame_false (fun e => c (by rw [e.1]))], (Ext.refl _)⟩
 refine Ws ?_
 refine W_sub _ (tk3 4 0 1) ?_
 have hlen : a.length = b.length := by omega
 refine W_seq (W_seq (W_region ?_))
 refine Av ?_
 refine L_nil (X_then (W_block ?_))
 refine W_loop (S := Nat) (fun i => [(0, v), (1, u), (5, .int .i64 ((i : Int)))]) (fun i h' => (i ≤ a.length ∧ ∀ k, k < i → nsame (at_nod a k) (at_nod b k)) ∧ Ext h h') (fun i => a.length - i) 0 (tk3 0 1 5) ?_ ?_
 ·exact ⟨⟨by omega, fun k hk => absurd hk (Nat.not_lt_zero _)⟩, Ext.refl _⟩
 rintro i h1 ⟨⟨hi, h0⟩, hx⟩
 show W _ _ _ _ _ [(0, v), (1, u), (5, .int .i64 ((i : Int)))] _
 refine W_seq (W_seq (W_region ?_))
 refine Mv ?_
 refine Mv ?_
 refine Ly (Y_lenr Tryd.underlying32 rfl (ha.ext hx)) ?_
 refine Ly (Y_lss rfl rfl) ?_
 refine Nx ?_
 refine W_sub _ (tk4 16 0 1 5) ?_
 refine W_splitd rfl (fun hlt => ?_) (fun hlt => ?_)
 ·refine Ws ?_
  refine W_sub _ (tk3 0 1 5) ?_
  refine W_seq (W_block (W_seq (W_region ?_)))
  refine Mv ?_
  refine Mv ?_
  refine Ly (Y_idxr Tryd.underlying32 (show _ = some 6 by kernel_rfl) rfl rfl rfl (ha.ext hx) (by omega) (by omega)) ?_
  refine Ly (Y_ldrA0 (k := ((i : Int)).toNat) (us := [.int .i64 ((at_nod a ((i : Int)).toNat).kind), str ((at_nod a ((i : Int)).toNat).path), .int .i64 ((at_nod a ((i : Int)).toNat).mode), str ((at_nod a ((i : Int)).toNat).target), ((at_nod a ((i : Int)).toNat).dv), .int .i64 ((at_nod a ((i : Int)).toNat).cls)]) Tryd.underlying48 rfl (show _ = some 6 by kernel_rfl) rfl rfl (ha.ext hx) (by omega) rfl) ?_
  refine L_mks (M_alloc (u := .agg #[.int .i64 0, str [], .int .i64 0, str [], .slice none 0 0, .int .i64 0]) (by kernel_rfl)) rfl rfl rfl ?_
  rintro _ h2 ⟨rfl, hn1⟩
  have hk2 : Blk h2 h1.size [.int .i64 0, str [], .int .i64 0, str [], .slice none 0 0, .int .i64 0] := hn1.blk
  refine L_dos (D_store (us := [.int .i64 ((at_nod a ((i : Int)).toNat).kind), str ((at_nod a ((i : Int)).toNat).path), .int .i64 ((at_nod a ((i : Int)).toNat).mode), str ((at_nod a ((i : Int)).toNat).target), ((at_nod a ((i : Int)).toNat).dv), .int .i64 ((at_nod a ((i : Int)).toNat).cls)]) (show _ = some 6 by kernel_rfl) rfl rfl rfl (by intro u_ hu_; simp only [List.mem_cons, List.not_mem_nil, or_false] at hu_; rcases hu_ with rfl | rfl | rfl | rfl | rfl | rfl <;> first | rfl | exact ((show Bytes _ ((at_nod a ((i : Int)).toNat).dv) ((at_nod a ((i : Int)).toNat).data) from (ha.ext (hx.trans hn1.ext)).okat (k := ((i : Int)).toNat) (by omega))).cell1) hk2 (by simp)) rfl rfl ?_
  rintro h3 hp3
  have hk4 : Blk h3 h1.size [.int .i64 ((at_nod a ((i : Int)).toNat).kind), str ((at_nod a ((i : Int)).toNat).path), .int .i64 ((at_nod a ((i : Int)).toNat).mode), str ((at_nod a ((i : Int)).toNat).target), ((at_nod a ((i : Int)).toNat).dv), .int .i64 ((at_nod a ((i : Int)).toNat).cls)] := hp3.blk
  refine Nx ?_
  refine W_sub _ (tk4 6 0 1 5) ?_
  refine Wr ?_
  refine Mv ?_
  refine Mv ?_
  refine Ly (Y_idxr Tryd.underlying32 (show _ = some 6 by kernel_rfl) rfl rfl rfl (hb.ext ((hx.trans hn1.ext).then' hp3.only (by simp) hx.size)) (by omega) (by omega)) ?_
  refine Ly (Y_ldrA0 (k := ((i : Int)).toNat) (us := [.int .i64 ((at_nod b ((i : Int)).toNat).kind), str ((at_nod b ((i : Int)).toNat).path), .int .i64 ((at_nod b ((i : Int)).toNat).mode), str ((at_nod b ((i : Int)).toNat).target), ((at_nod b ((i : Int)).toNat).dv), .int .i64 ((at_nod b ((i : Int)).toNat).cls)]) Tryd.underlying48 rfl (show _ = some 6 by kernel_rfl) rfl rfl (hb.ext ((hx.trans hn1.ext).then' hp3.only (by simp) hx.size)) (by omega) rfl) ?_
  refine L_mks (M_alloc (u := .agg #[.int .i64 0, str [], .int .i64 0, str [], .slice none 0 0, .int .i64 0]) (by kernel_rfl)) rfl rfl rfl ?_
  rintro _ h4 ⟨rfl, hn5⟩
  have hk6 : Blk h4 h3.size [.int .i64 0, str [], .int .i64 0, str [], .slice none 0 0, .int .i64 0] := hn5.blk
  have me1 := ((hx.trans hn1.ext).then' hp3.only (by simp) hx.size).trans hn5.ext
  refine L_dos (D_store (us := [.int .i64 ((at_nod b ((i : Int)).toNat).kind), str ((at_nod b ((i : Int)).toNat).path), .int .i64 ((at_nod b ((i : Int)).toNat).mode), str ((at_nod b ((i : Int)).toNat).target), ((at_nod b ((i : Int)).toNat).dv), .int .i64 ((at_nod b ((i : Int)).toNat).cls)]) (show _ = some 6 by kernel_rfl) rfl rfl rfl (by intro u_ hu_; simp only [List.mem_cons, List.not_mem_nil, or_false] at hu_; rcases hu_ with rfl | rfl | rfl | rfl | rfl | rfl <;> first | rfl | exact ((show Bytes _ ((at_nod b ((i : Int)).toNat).dv) ((at_nod b ((i : Int)).toNat).data) from (hb.ext me1).okat (k := ((i : Int)).toNat) (by omega))).cell1) hk6 (by simp)) rfl rfl ?_
  rintro h5 hp7
  have hk8 : Blk h5 h3.size [.int .i64 ((at_nod b ((i : Int)).toNat).kind), str ((at_nod b ((i : Int)).toNat).path), .int .i64 ((at_nod b ((i : Int)).toNat).mode), str ((at_nod b ((i : Int)).toNat).target), ((at_nod b ((i : Int)).toNat).dv), .int .i64 ((at_nod b ((i : Int)).toNat).cls)] := hp7.blk
  refine Nx ?_
  refine W_sub _ (tk5 7 6 0 1 5) ?_
  refine W_cut (S := Unit) (fun _ => [(68, .bool (decide ((((((¬ ((at_nod a ((i : Int)).toNat).kind) = ((at_nod b ((i : Int)).toNat).kind)) ∨ (¬ ((at_nod a ((i : Int)).toNat).path) = ((at_nod b ((i : Int)).toNat).path))) ∨ (¬ ((at_nod a ((i : Int)).toNat).mode) = ((at_nod b ((i : Int)).toNat).mode))) ∨ (¬ ((at_nod a ((i : Int)).toNat).target) = ((at_nod b ((i : Int)).toNat).target))) ∨ (¬ ((at_nod a ((i : Int)).toNat).cls) = ((at_nod b ((i : Int)).toNat).cls))) ∨ (¬ ((at_nod a ((i : Int)).toNat).data) = ((at_nod b ((i : Int)).toNat).data))))), (0, v), (1, u), (5, .int .i64 ((i : Int)))]) (fun _ h' => h' = h5) ?_ ?_
  ·refine W_region ?_
   refine Ly (Y_fieldAddr (off := 0) (by kernel_rfl) rfl rfl) ?_
   refine Ly (Y_ldblk Tryd.underlying3 rfl rfl (hk4.ext (hn5.ext.then' hp7.only (by simp) (Nat.le_refl _))) rfl) ?_
   refine Ly (Y_fieldAddr (off := 0) (by kernel_rfl) rfl rfl) ?_
   refine Ly (Y_ldblk Tryd.underlying3 rfl rfl hk8 rfl) ?_
   refine Ly (Y_neq rfl rfl) ?_
   refine Mv ?_
   refine L_splitd (d := 32) rfl (fun c9 => ?_) (fun c9 => ?_)
   ·refine Skp ?_
    refine Skp ?_
    refine Skp ?_
    refine Skp ?_
    refine Skp ?_
    refine Ly (Y_pick_t rfl rfl) ?_
    refine Mv ?_
    refine Skp ?_
    refine Skp ?_
    refine Skp ?_
    refine Skp ?_
    refine Skp ?_
    refine Ly (Y_pick_t rfl rfl) ?_
    refine Mv ?_
    refine Skp ?_
    refine Skp ?_
    refine Skp ?_
    refine Skp ?_
    refine Skp ?_
    refine Ly (Y_pick_t rfl rfl) ?_
    refine Mv ?_
    refine Skp ?_
    refine Skp ?_
    refine Skp ?_
    refine Skp ?_
    refine Skp ?_
    refine Ly (Y_pick_t rfl rfl) ?_
    refine Mv ?_
    refine Skp ?_
    refine Skp ?_
    refine Skp ?_
    refine Skp ?_
    refine Skp ?_
    refine Skp ?_
    refine Skp ?_
    refine Ly (Y_pick_t rfl rfl) ?_
    refine L_nil ?_
    exact X_cut () (sk1 68 (lkb rfl (by first | (simp only [eq_true c9, SB]; done) | (simp only [eq_true c9, SB]; rfl))) (sk1 0 rfl (sk1 1 rfl (tk1 5)))) rfl
   refine Ly (Y_fieldAddr (off := 1) (by kernel_rfl) rfl rfl) ?_
   refine Ly (Y_ldblk Tryd.underlying9 rfl rfl (hk4.ext (hn5.ext.then' hp7.only (by simp) (Nat.le_refl _))) rfl) ?_
   refine Ly (Y_fieldAddr (off := 1) (by kernel_rfl) rfl rfl) ?_
   refine Ly (Y_ldblk Tryd.underlying9 rfl rfl hk8 rfl) ?_
   refine Ly (Y_sneq rfl rfl) ?_
   refine Ly (Y_pick_f rfl rfl) ?_
   refine Mv ?_
   refine L_splitd (d := 39) rfl (fun c10 => ?_) (fun c10 => ?_)
   ·refine Skp ?_
    refine Skp ?_
    refine Skp ?_
    refine Skp ?_
    refine Skp ?_
    refine Ly (Y_pick_t rfl rfl) ?_
    refine Mv ?_
    refine Skp ?_
    refine Skp ?_
    refine Skp ?_
    refine Skp ?_
    refine Skp ?_
    refine Ly (Y_pick_t rfl rfl) ?_
    refine Mv ?_
    refine Skp ?_
    refine Skp ?_
    refine Skp ?_
    refine Skp ?_
    refine Skp ?_
    refine Ly (Y_pick_t rfl rfl) ?_
    refine Mv ?_
    refine Skp ?_
    refine Skp ?_
    refine Skp ?_
    refine Skp ?_
    refine Skp ?_
    refine Skp ?_
    refine Skp ?_
    refine Ly (Y_pick_t rfl rfl) ?_
    refine L_nil ?_
    exact X_cut () (sk1 68 (lkb rfl (by first | (simp only [eq_false c9, eq_true c10, SB]; done) | (simp only [eq_false c9, eq_true c10, SB]; rfl))) (sk1 0 rfl (sk1 1 rfl (tk1 5)))) rfl
   refine Ly (Y_fieldAddr (off := 2) (by kernel_rfl) rfl rfl) ?_
   refine Ly (Y_ldblk Tryd.underlying3 rfl rfl (hk4.ext (hn5.ext.then' hp7.only (by simp) (Nat.le_refl _))) rfl) ?_
   refine Ly (Y_fieldAddr (off := 2) (by kernel_rfl) rfl rfl) ?_
   refine Ly (Y_ldblk Tryd.underlying3 rfl rfl hk8 rfl) ?_
   refine Ly (Y_neq rfl rfl) ?_
   refine Ly (Y_pick_f rfl rfl) ?_
   refine Mv ?_
   refine L_splitd (d := 46) rfl (fun c11 => ?_) (fun c11 => ?_)
   ·refine Skp ?_
    refine Skp ?_
    refine Skp ?_
    refine Skp ?_
    refine Skp ?_
    refine Ly (Y_pick_t rfl rfl) ?_
    refine Mv ?_
    refine Skp ?_
    refine Skp ?_
    refine Skp ?_
    refine Skp ?_
    refine Skp ?_
    refine Ly (Y_pick_t rfl rfl) ?_
    refine Mv ?_
    refine Skp ?_
    refine Skp ?_
    refine Skp ?_
    refine Skp ?_
    refine Skp ?_
    refine Skp ?_
    refine Skp ?_
    refine Ly (Y_pick_t rfl rfl) ?_
    refine L_nil ?_
    exact X_cut () (sk1 68 (lkb rfl (by first | (simp only [eq_false c9, eq_false c10, eq_true c11, SB]; done) | (simp only [eq_false c9, eq_false c10, eq_true c11, SB]; rfl))) (sk1 0 rfl (sk1 1 rfl (tk1 5)))) rfl
   refine Ly (Y_fieldAddr (off := 3) (by kernel_rfl) rfl rfl) ?_
   refine Ly (Y_ldblk Tryd.underlying9 rfl rfl (hk4.ext (hn5.ext.then' hp7.only (by simp) (Nat.le_refl _))) rfl) ?_
   refine Ly (Y_fieldAddr (off := 3) (by kernel_rfl) rfl rfl) ?_
   refine Ly (Y_ldblk Tryd.underlying9 rfl rfl hk8 rfl) ?_
   refine Ly (Y_sneq rfl rfl) ?_
   refine Ly (Y_pick_f rfl rfl) ?_
   refine Mv ?_
   refine L_splitd (d := 53) rfl (fun c12 => ?_) (fun c12 => ?_)
   ·refine Skp ?_
    refine Skp ?_
    refine Skp ?_
    refine Skp ?_
    refine Skp ?_
    refine Ly (Y_pick_t rfl rfl) ?_
    refine Mv ?_
    refine Skp ?_
    refine Skp ?_
    refine Skp ?_
    refine Skp ?_
    refine Skp ?_
    refine Skp ?_
    refine Skp ?_
    refine Ly (Y_pick_t rfl rfl) ?_
    refine L_nil ?_
    exact X_cut () (sk1 68 (lkb rfl (by first | (simp only [eq_false c9, eq_false c10, eq_false c11, eq_true c12, SB]; done) | (exfalso; contradiction) | (exfalso; omega))) (sk1 0 rfl (sk1 1 rfl (tk1 5)))) rfl
   refine Ly (Y_fieldAddr (off := 5) (by kernel_rfl) rfl rfl) ?_
   refine Ly (Y_ldblk Tryd.underlying3 rfl rfl (hk4.ext (hn5.ext.then' hp7.only (by simp) (Nat.le_refl _))) rfl) ?_
   refine Ly (Y_fieldAddr (off := 5) (by kernel_rfl) rfl rfl) ?_
   refine Ly (Y_ldblk Tryd.underlying3 rfl rfl hk8 rfl) ?_
   refine Ly (Y_neq rfl rfl) ?_
   refine Ly (Y_pick_f rfl rfl) ?_
   refine Mv ?_
   refine L_splitd (d := 60) rfl (fun c13 => ?_) (fun c13 => ?_)
   ·refine Skp ?_
    refine Skp ?_
    refine Skp ?_
    refine Skp ?_
    refine Skp ?_
    refine Skp ?_
    refine Skp ?_
    refine Ly (Y_pick_t rfl rfl) ?_
    refine L_nil ?_
    exact X_cut () (sk1 68 (lkb rfl (by first | (simp only [eq_false c9, eq_false c10, eq_false c11, eq_false c12, eq_true c13, SB]; done) | (exfalso; contradiction) | (exfalso; omega))) (sk1 0 rfl (sk1 1 rfl (tk1 5)))) rfl
   refine Ly (Y_fieldAddr (off := 4) (by kernel_rfl) rfl rfl) ?_
   refine Ly (Y_ldblk Tryd.underlying28 rfl rfl (hk4.ext (hn5.ext.then' hp7.only (by simp) (Nat.le_refl _))) rfl) ?_
   have me2 := Nat.le_trans (Nat.le_trans hx.size hn1.ext.size) hp3.only.size
   refine Ly (Y_bytes_str Tryd.underlying28 Tryd.underlying5 Tryd.underlying9 rfl (show Bytes _ ((at_nod a ((i : Int)).toNat).dv) ((at_nod a ((i : Int)).toNat).data) from (ha.ext (me1.then' hp7.only (by simp) me2)).okat (k := ((i : Int)).toNat) (by omega))) ?_
   refine Ly (Y_fieldAddr (off := 4) (by kernel_rfl) rfl rfl) ?_
   refine Ly (Y_ldblk Tryd.underlying28 rfl rfl hk8 rfl) ?_
   refine Ly (Y_bytes_str Tryd.underlying28 Tryd.underlying5 Tryd.underlying9 rfl (show Bytes _ ((at_nod b ((i : Int)).toNat).dv) ((at_nod b ((i : Int)).toNat).data) from (hb.ext (me1.then' hp7.only (by simp) me2)).okat (k := ((i : Int)).toNat) (by omega))) ?_
   refine Ly (Y_sneq rfl rfl) ?_
   refine Ly (Y_pick_f rfl rfl) ?_
   refine L_nil ?_
   exact X_cut () (sk1 68 (lkb rfl (by first | (simp only [eq_false c9, eq_false c10, eq_false c11, eq_false c12, eq_false c13, SB]; done) | (exfalso; contradiction) | (exfalso; omega))) (sk1 0 rfl (sk1 1 rfl (tk1 5)))) rfl
  rintro _ h5 rfl
  show W _ _ _ _ _ [(68, .bool (decide ((((((¬ ((at_nod a ((i : Int)).toNat).kind) = ((at_nod b ((i : Int)).toNat).kind)) ∨ (¬ ((at_nod a ((i : Int)).toNat).path) = ((at_nod b ((i : Int)).toNat).path))) ∨ (¬ ((at_nod a ((i : Int)).toNat).mode) = ((at_nod b ((i : Int)).toNat).mode))) ∨ (¬ ((at_nod a ((i : Int)).toNat).target) = ((at_nod b ((i : Int)).toNat).target))) ∨ (¬ ((at_nod a ((i : Int)).toNat).cls) = ((at_nod b ((i : Int)).toNat).cls))) ∨ (¬ ((at_nod a ((i : Int)).toNat).data) = ((at_nod b ((i : Int)).toNat).data))))), (0, v), (1, u), (5, .int .i64 ((i : Int)))] _
  refine W_splitd rfl (fun y => ?_) (fun y => ?_)
  ·refine Wr ?_
   refine Av ?_
   refine Nx ?_
   refine W_sub _ (tk4 4 0 1 5) ?_
   refine W_ret (X_block_ret (X_then_ret (X_then_ret (X_block_ret (X_then_ret ?_)))))
   refine X_ret1 rfl rfl ?_
   have me3 := Nat.le_trans (Nat.le_trans hx.size hn1.ext.size) hp3.only.size
   exact ⟨by rw [lsame_false (fun e => by have h9 := e.2 i (by omega); exact y.elim (fun y => y.elim (fun y => y.elim (fun y => y.elim (fun y => y.elim (fun y => y h9.1.1.1.1.1) (fun y => y h9.1.1.1.1.2)) (fun y => y h9.1.1.1.2)) (fun y => y h9.1.1.2)) (fun y => y h9.1.2)) (fun y => y h9.2))], (me1.then' hp7.only (by simp) me3)⟩
  refine W_skip (X_block (X_then ?_))
  refine W_sub _ (tk3 0 1 5) ?_
  refine W_region ?_
  refine Mv ?_
  refine Ly (Y_add rfl rfl (by omega) (by omega)) ?_
  refine Av ?_
  refine L_nil ?_
  refine X_loop (i + 1) (tk3 0 1 5) ?_ ?_
  ·exact ⟨⟨by omega, step_ne h0 (by have h9 : nsame (at_nod a (i : Int).toNat) (at_nod b (i : Int).toNat) := (by unfold nsame; simp only [not_or, Classical.not_not] at y; exact y); exact h9)⟩, (me1.then' hp7.only (by simp) (Nat.le_trans (Nat.le_trans hx.size hn1.ext.size) hp3.only.size))⟩
  (try dsimp only)
  omega
 refine W_exit ?_
 refine X_then_exit (X_then_exit ?_)
 refine X_block_hit ?_
 refine X_then ?_
 refine W_sub _ sN ?_
 refine Wr ?_
 refine Av ?_
 refine L_nil (X_then (W_ret ?_))
 refine X_ret1 rfl rfl ?_
 exact ⟨by rw [lsame_iff.2 ⟨hlen, fun k hk => h0 k (by omega)⟩], hx⟩
end Go.Xp
