/- Layer 13 (tree): the reference's Check, and Same. -/
import Derived.Test.YtknimfbagbkjfaaDoorTreeP
set_option linter.unusedSimpArgs false
set_option linter.unusedVariables false
set_option linter.unusedSectionVars false
namespace Go.Xp
open Go.Proofs

/-- Two nodes are the same, but for where their data lie. -/
def nsame (x y : Nod) : Prop := ((((x.kind = y.kind ∧ x.path = y.path) ∧ x.mode = y.mode) ∧ x.target = y.target) ∧ x.cls = y.cls) ∧ x.data = y.data
instance (x y : Nod) : Decidable (nsame x y) := by unfold nsame; infer_instance
def lsame (a b : List Nod) : Bool := decide (a.length = b.length) && (List.range a.length).all fun k => decide (nsame (at_nod a k) (at_nod b k))
theorem lsame_iff {a b : List Nod} : lsame a b = true ↔ a.length = b.length ∧ ∀ k, k < a.length → nsame (at_nod a k) (at_nod b k) := by
  unfold lsame; rw [Bool.and_eq_true, decide_eq_true_eq, List.all_eq_true]
  constructor
  · rintro ⟨h, h2⟩; exact ⟨h, fun k hk => of_decide_eq_true (h2 k (List.mem_range.2 hk))⟩
  · rintro ⟨h, h2⟩; exact ⟨h, fun k hk => decide_eq_true (h2 k (List.mem_range.1 hk))⟩
theorem lsame_false {a b : List Nod} (h : ¬ (a.length = b.length ∧ ∀ k, k < a.length → nsame (at_nod a k) (at_nod b k))) : lsame a b = false := by
  rw [← Bool.not_eq_true, lsame_iff]; exact h
set_option maxRecDepth 100000 in
theorem ref13_Same (h : Heap) (v : Value) (a : List Nod) (ha : Rows nodS h v a) (u : Value) (b : List Nod) (hb : Rows nodS h u b) (hl0 : a.length ≤ 140737488355328) : Cal Tryd.prog 20 #[v, u] h (fun v h' => v = .bool (lsame a b) ∧ Ext h h') := by
 refine Cal_enter (args := [v, u]) Tryd.func20 rfl rfl rfl (fun σ => ?_)
 refine Wr ?_
 refine Av ?_
 refine L_nil (X_then (W_seq (W_seq (W_region ?_))))
 refine Mv ?_
 refine Ly (Y_lenr Tryd.underlying32 rfl ha) ?_
 refine Mv ?_
 refine Ly (Y_lenr Tryd.underlying32 rfl hb) ?_
 refine Ly (Y_neq rfl rfl) ?_
 refine Nx ?_
 refine W_sub _ (tk4 12 4 0 1) ?_
 refine W_splitd rfl (fun c => ?_) (fun c => ?_)
 ·refine Wr ?_
  refine Av ?_
  refine Nx ?_
  refine W_sub _ (tk3 4 0 1) ?_
  refine W_ret (X_then_ret ?_)
  refine X_ret1 rfl rfl ?_
  exact ⟨by rw [lsame_false (fun e => c (by rw [e.1]))], (Ext.refl _)⟩
 refine Ws ?_
 refine W_sub _ (tk3 4 0 1) ?_
 have hlen : a.length = b.length := by omega
 refine W_seq (W_seq (W_region ?_))
 refine Av ?_
 refine L_nil (X_then (W_block ?_))
 refine W_loop (S := Nat) (fun i => [(0, v), (1, u), (5, .int .i64 ((i : Int)))]) (fun i h' => (i ≤ a.length ∧ ∀ k, k < i → nsame (at_nod a k) (at_nod b k)) ∧ Ext h h') (fun i => a.length - i) 0 (tk3 0 1 5) ?_ ?_
 ·exact ⟨⟨by omega, fun k hk => absurd hk (Nat.not_lt_zero _)⟩, Ext.refl _⟩
 rintro i h1 ⟨⟨hi, h0⟩, hx⟩
 show W _ _ _ _ _ [(0, v), (1, u), (5, .int .i64 ((i : Int)))] _
 refine W_seq (W_seq (W_region ?_))
 refine Mv ?_
 refine Mv ?_
 refine Ly (Y_lenr Tryd.underlying32 rfl (ha.ext hx)) ?_
 refine Ly (Y_lss rfl rfl) ?_
 refine Nx ?_
 refine W_sub _ (tk4 16 0 1 5) ?_
 refine W_splitd rfl (fun hlt => ?_) (fun hlt => ?_)
 ·refine Ws ?_
  refine W_sub _ (tk3 0 1 5) ?_
  refine W_seq (W_block (W_seq (W_region ?_)))
  refine Mv ?_
  refine Mv ?_
  refine Ly (Y_idxr Tryd.underlying32 (show _ = some 6 by kernel_rfl) rfl rfl rfl (ha.ext hx) (by omega) (by omega)) ?_
  refine Ly (Y_ldrA0 (k := ((i : Int)).toNat) (us := [.int .i64 ((at_nod a ((i : Int)).toNat).kind), str ((at_nod a ((i : Int)).toNat).path), .int .i64 ((at_nod a ((i : Int)).toNat).mode), str ((at_nod a ((i : Int)).toNat).target), ((at_nod a ((i : Int)).toNat).dv), .int .i64 ((at_nod a ((i : Int)).toNat).cls)]) Tryd.underlying48 rfl (show _ = some 6 by kernel_rfl) rfl rfl (ha.ext hx) (by omega) rfl) ?_
  refine L_mks (M_alloc (u := .agg #[.int .i64 0, str [], .int .i64 0, str [], .slice none 0 0, .int .i64 0]) (by kernel_rfl)) rfl rfl rfl ?_
  rintro _ h2 ⟨rfl, hn1⟩
  have hk2 : Blk h2 h1.size [.int .i64 0, str [], .int .i64 0, str [], .slice none 0 0, .int .i64 0] := hn1.blk
  refine L_dos (D_store (us := [.int .i64 ((at_nod a ((i : Int)).toNat).kind), str ((at_nod a ((i : Int)).toNat).path), .int .i64 ((at_nod a ((i : Int)).toNat).mode), str ((at_nod a ((i : Int)).toNat).target), ((at_nod a ((i : Int)).toNat).dv), .int .i64 ((at_nod a ((i : Int)).toNat).cls)]) (show _ = some 6 by kernel_rfl) rfl rfl rfl (by intro u_ hu_; simp only [List.mem_cons, List.not_mem_nil, or_false] at hu_; rcases hu_ with rfl | rfl | rfl | rfl | rfl | rfl <;> first | rfl | exact ((show Bytes _ ((at_nod a ((i : Int)).toNat).dv) ((at_nod a ((i : Int)).toNat).data) from (ha.ext (hx.trans hn1.ext)).okat (k := ((i : Int)).toNat) (by omega))).cell1) hk2 (by simp)) rfl rfl ?_
  rintro h3 hp3
  have hk4 : Blk h3 h1.size [.int .i64 ((at_nod a ((i : Int)).toNat).kind), str ((at_nod a ((i : Int)).toNat).path), .int .i64 ((at_nod a ((i : Int)).toNat).mode), str ((at_nod a ((i : Int)).toNat).target), ((at_nod a ((i : Int)).toNat).dv), .int .i64 ((at_nod a ((i : Int)).toNat).cls)] := hp3.blk
  refine Nx ?_
  refine W_sub _ (tk4 6 0 1 5) ?_
  refine Wr ?_
  refine Mv ?_
  refine Mv ?_
  refine Ly (Y_idxr Tryd.underlying32 (show _ = some 6 by kernel_rfl) rfl rfl rfl (hb.ext ((hx.trans hn1.ext).then' hp3.only (by simp) hx.size)) (by omega) (by omega)) ?_
  refine Ly (Y_ldrA0 (k := ((i : Int)).toNat) (us := [.int .i64 ((at_nod b ((i : Int)).toNat).kind), str ((at_nod b ((i : Int)).toNat).path), .int .i64 ((at_nod b ((i : Int)).toNat).mode), str ((at_nod b ((i : Int)).toNat).target), ((at_nod b ((i : Int)).toNat).dv), .int .i64 ((at_nod b ((i : Int)).toNat).cls)]) Tryd.underlying48 rfl (show _ = some 6 by kernel_rfl) rfl rfl (hb.ext ((hx.trans hn1.ext).then' hp3.only (by simp) hx.size)) (by omega) rfl) ?_
  refine L_mks (M_alloc (u := .agg #[.int .i64 0, str [], .int .i64 0, str [], .slice none 0 0, .int .i64 0]) (by kernel_rfl)) rfl rfl rfl ?_
  rintro _ h4 ⟨rfl, hn5⟩
  have hk6 : Blk h4 h3.size [.int .i64 0, str [], .int .i64 0, str [], .slice none 0 0, .int .i64 0] := hn5.blk
  have me1 := ((hx.trans hn1.ext).then' hp3.only (by simp) hx.size).trans hn5.ext
  refine L_dos (D_store (us := [.int .i64 ((at_nod b ((i : Int)).toNat).kind), str ((at_nod b ((i : Int)).toNat).path), .int .i64 ((at_nod b ((i : Int)).toNat).mode), str ((at_nod b ((i : Int)).toNat).target), ((at_nod b ((i : Int)).toNat).dv), .int .i64 ((at_nod b ((i : Int)).toNat).cls)]) (show _ = some 6 by kernel_rfl) rfl rfl rfl (by intro u_ hu_; simp only [List.mem_cons, List.not_mem_nil, or_false] at hu_; rcases hu_ with rfl | rfl | rfl | rfl | rfl | rfl <;> first | rfl | exact ((show Bytes _ ((at_nod b ((i : Int)).toNat).dv) ((at_nod b ((i : Int)).toNat).data) from (hb.ext me1).okat (k := ((i : Int)).toNat) (by omega))).cell1) hk6 (by simp)) rfl rfl ?_
  rintro h5 hp7
  have hk8 : Blk h5 h3.size [.int .i64 ((at_nod b ((i : Int)).toNat).kind), str ((at_nod b ((i : Int)).toNat).path), .int .i64 ((at_nod b ((i : Int)).toNat).mode), str ((at_nod b ((i : Int)).toNat).target), ((at_nod b ((i : Int)).toNat).dv), .int .i64 ((at_nod b ((i : Int)).toNat).cls)] := hp7.blk
  refine Nx ?_
  refine W_sub _ (tk5 7 6 0 1 5) ?_
  refine W_cut (S := Unit) (fun _ => [(68, .bool (decide ((((((¬ ((at_nod a ((i : Int)).toNat).kind) = ((at_nod b ((i : Int)).toNat).kind)) ∨ (¬ ((at_nod a ((i : Int)).toNat).path) = ((at_nod b ((i : Int)).toNat).path))) ∨ (¬ ((at_nod a ((i : Int)).toNat).mode) = ((at_nod b ((i : Int)).toNat).mode))) ∨ (¬ ((at_nod a ((i : Int)).toNat).target) = ((at_nod b ((i : Int)).toNat).target))) ∨ (¬ ((at_nod a ((i : Int)).toNat).cls) = ((at_nod b ((i : Int)).toNat).cls))) ∨ (¬ ((at_nod a ((i : Int)).toNat).data) = ((at_nod b ((i : Int)).toNat).data))))), (0, v), (1, u), (5, .int .i64 ((i : Int)))]) (fun _ h' => h' = h5) ?_ ?_
  ·refine W_region ?_
   refine Ly (Y_fieldAddr (off := 0) (by kernel_rfl) rfl rfl) ?_
   refine Ly (Y_ldblk Tryd.underlying3 rfl rfl (hk4.ext (hn5.ext.then' hp7.only (by simp) (Nat.le_refl _))) rfl) ?_
   refine Ly (Y_fieldAddr (off := 0) (by kernel_rfl) rfl rfl) ?_
   refine Ly (Y_ldblk Tryd.underlying3 rfl rfl hk8 rfl) ?_
   refine Ly (Y_neq rfl rfl) ?_
   refine Mv ?_
   refine L_splitd (d := 32) rfl (fun c9 => ?_) (fun c9 => ?_)
   ·refine Skp ?_
    refine Skp ?_
    refine Skp ?_
    refine Skp ?_
    refine Skp ?_
    refine Ly (Y_pick_t rfl rfl) ?_
    refine Mv ?_
    refine Skp ?_
    refine Skp ?_
    refine Skp ?_
    refine Skp ?_
    refine Skp ?_
    refine Ly (Y_pick_t rfl rfl) ?_
    refine Mv ?_
    refine Skp ?_
    refine Skp ?_
    refine Skp ?_
    refine Skp ?_
    refine Skp ?_
    refine Ly (Y_pick_t rfl rfl) ?_
    refine Mv ?_
    refine Skp ?_
    refine Skp ?_
    refine Skp ?_
    refine Skp ?_
    refine Skp ?_
    refine Ly (Y_pick_t rfl rfl) ?_
    refine Mv ?_
    refine Skp ?_
    refine Skp ?_
    refine Skp ?_
    refine Skp ?_
    refine Skp ?_
    refine Skp ?_
    refine Skp ?_
    refine Ly (Y_pick_t rfl rfl) ?_
    refine L_nil ?_
    exact X_cut () (sk1 68 (lkb rfl (by first | (simp only [eq_true c9, SB]; done) | (simp only [eq_true c9, SB]; rfl))) (sk1 0 rfl (sk1 1 rfl (tk1 5)))) rfl
   refine Ly (Y_fieldAddr (off := 1) (by kernel_rfl) rfl rfl) ?_
   refine Ly (Y_ldblk Tryd.underlying9 rfl rfl (hk4.ext (hn5.ext.then' hp7.only (by simp) (Nat.le_refl _))) rfl) ?_
   refine Ly (Y_fieldAddr (off := 1) (by kernel_rfl) rfl rfl) ?_
   refine Ly (Y_ldblk Tryd.underlying9 rfl rfl hk8 rfl) ?_
   refine Ly (Y_sneq rfl rfl) ?_
   refine Ly (Y_pick_f rfl rfl) ?_
   refine Mv ?_
   refine L_splitd (d := 39) rfl (fun c10 => ?_) (fun c10 => ?_)
   ·refine Skp ?_
    refine Skp ?_
    refine Skp ?_
    refine Skp ?_
    refine Skp ?_
    refine Ly (Y_pick_t rfl rfl) ?_
    refine Mv ?_
    refine Skp ?_
    refine Skp ?_
    refine Skp ?_
    refine Skp ?_
    refine Skp ?_
    refine Ly (Y_pick_t rfl rfl) ?_
    refine Mv ?_
    refine Skp ?_
    refine Skp ?_
    refine Skp ?_
    refine Skp ?_
    refine Skp ?_
    refine Ly (Y_pick_t rfl rfl) ?_
    refine Mv ?_
    refine Skp ?_
    refine Skp ?_
    refine Skp ?_
    refine Skp ?_
    refine Skp ?_
    refine Skp ?_
    refine Skp ?_
    refine Ly (Y_pick_t rfl rfl) ?_
    refine L_nil ?_
    exact X_cut () (sk1 68 (lkb rfl (by first | (simp only [eq_false c9, eq_true c10, SB]; done) | (simp only [eq_false c9, eq_true c10, SB]; rfl))) (sk1 0 rfl (sk1 1 rfl (tk1 5)))) rfl
   refine Ly (Y_fieldAddr (off := 2) (by kernel_rfl) rfl rfl) ?_
   refine Ly (Y_ldblk Tryd.underlying3 rfl rfl (hk4.ext (hn5.ext.then' hp7.only (by simp) (Nat.le_refl _))) rfl) ?_
   refine Ly (Y_fieldAddr (off := 2) (by kernel_rfl) rfl rfl) ?_
   refine Ly (Y_ldblk Tryd.underlying3 rfl rfl hk8 rfl) ?_
   refine Ly (Y_neq rfl rfl) ?_
   refine Ly (Y_pick_f rfl rfl) ?_
   refine Mv ?_
   refine L_splitd (d := 46) rfl (fun c11 => ?_) (fun c11 => ?_)
   ·refine Skp ?_
    refine Skp ?_
    refine Skp ?_
    refine Skp ?_
    refine Skp ?_
    refine Ly (Y_pick_t rfl rfl) ?_
    refine Mv ?_
    refine Skp ?_
    refine Skp ?_
    refine Skp ?_
    refine Skp ?_
    refine Skp ?_
    refine Ly (Y_pick_t rfl rfl) ?_
    refine Mv ?_
    refine Skp ?_
    refine Skp ?_
    refine Skp ?_
    refine Skp ?_
    refine Skp ?_
    refine Skp ?_
    refine Skp ?_
    refine Ly (Y_pick_t rfl rfl) ?_
    refine L_nil ?_
    exact X_cut () (sk1 68 (lkb rfl (by first | (simp only [eq_false c9, eq_false c10, eq_true c11, SB]; done) | (simp only [eq_false c9, eq_false c10, eq_true c11, SB]; rfl))) (sk1 0 rfl (sk1 1 rfl (tk1 5)))) rfl
   refine Ly (Y_fieldAddr (off := 3) (by kernel_rfl) rfl rfl) ?_
   refine Ly (Y_ldblk Tryd.underlying9 rfl rfl (hk4.ext (hn5.ext.then' hp7.only (by simp) (Nat.le_refl _))) rfl) ?_
   refine Ly (Y_fieldAddr (off := 3) (by kernel_rfl) rfl rfl) ?_
   refine Ly (Y_ldblk Tryd.underlying9 rfl rfl hk8 rfl) ?_
   refine Ly (Y_sneq rfl rfl) ?_
   refine Ly (Y_pick_f rfl rfl) ?_
   refine Mv ?_
   refine L_splitd (d := 53) rfl (fun c12 => ?_) (fun c12 => ?_)
   ·refine Skp ?_
    refine Skp ?_
    refine Skp ?_
    refine Skp ?_
    refine Skp ?_
    refine Ly (Y_pick_t rfl rfl) ?_
    refine Mv ?_
    refine Skp ?_
    refine Skp ?_
    refine Skp ?_
    refine Skp ?_
    refine Skp ?_
    refine Skp ?_
    refine Skp ?_
    refine Ly (Y_pick_t rfl rfl) ?_
    refine L_nil ?_
    exact X_cut () (sk1 68 (lkb rfl (by first | (simp only [eq_false c9, eq_false c10, eq_false c11, eq_true c12, SB]; done) | (exfalso; contradiction) | (exfalso; omega))) (sk1 0 rfl (sk1 1 rfl (tk1 5)))) rfl
   refine Ly (Y_fieldAddr (off := 5) (by kernel_rfl) rfl rfl) ?_
   refine Ly (Y_ldblk Tryd.underlying3 rfl rfl (hk4.ext (hn5.ext.then' hp7.only (by simp) (Nat.le_refl _))) rfl) ?_
   refine Ly (Y_fieldAddr (off := 5) (by kernel_rfl) rfl rfl) ?_
   refine Ly (Y_ldblk Tryd.underlying3 rfl rfl hk8 rfl) ?_
   refine Ly (Y_neq rfl rfl) ?_
   refine Ly (Y_pick_f rfl rfl) ?_
   refine Mv ?_
   refine L_splitd (d := 60) rfl (fun c13 => ?_) (fun c13 => ?_)
   ·refine Skp ?_
    refine Skp ?_
    refine Skp ?_
    refine Skp ?_
    refine Skp ?_
    refine Skp ?_
    refine Skp ?_
    refine Ly (Y_pick_t rfl rfl) ?_
    refine L_nil ?_
    exact X_cut () (sk1 68 (lkb rfl (by first | (simp only [eq_false c9, eq_false c10, eq_false c11, eq_false c12, eq_true c13, SB]; done) | (exfalso; contradiction) | (exfalso; omega))) (sk1 0 rfl (sk1 1 rfl (tk1 5)))) rfl
   refine Ly (Y_fieldAddr (off := 4) (by kernel_rfl) rfl rfl) ?_
   refine Ly (Y_ldblk Tryd.underlying28 rfl rfl (hk4.ext (hn5.ext.then' hp7.only (by simp) (Nat.le_refl _))) rfl) ?_
   have me2 := Nat.le_trans (Nat.le_trans hx.size hn1.ext.size) hp3.only.size
   refine Ly (Y_bytes_str Tryd.underlying28 Tryd.underlying5 Tryd.underlying9 rfl (show Bytes _ ((at_nod a ((i : Int)).toNat).dv) ((at_nod a ((i : Int)).toNat).data) from (ha.ext (me1.then' hp7.only (by simp) me2)).okat (k := ((i : Int)).toNat) (by omega))) ?_
   refine Ly (Y_fieldAddr (off := 4) (by kernel_rfl) rfl rfl) ?_
   refine Ly (Y_ldblk Tryd.underlying28 rfl rfl hk8 rfl) ?_
   refine Ly (Y_bytes_str Tryd.underlying28 Tryd.underlying5 Tryd.underlying9 rfl (show Bytes _ ((at_nod b ((i : Int)).toNat).dv) ((at_nod b ((i : Int)).toNat).data) from (hb.ext (me1.then' hp7.only (by simp) me2)).okat (k := ((i : Int)).toNat) (by omega))) ?_
   refine Ly (Y_sneq rfl rfl) ?_
   refine Ly (Y_pick_f rfl rfl) ?_
   refine L_nil ?_
   exact X_cut () (sk1 68 (lkb rfl (by first | (simp only [eq_false c9, eq_false c10, eq_false c11, eq_false c12, eq_false c13, SB]; done) | (exfalso; contradiction) | (exfalso; omega))) (sk1 0 rfl (sk1 1 rfl (tk1 5)))) rfl
  rintro _ h5 rfl
  show W _ _ _ _ _ [(68, .bool (decide ((((((¬ ((at_nod a ((i : Int)).toNat).kind) = ((at_nod b ((i : Int)).toNat).kind)) ∨ (¬ ((at_nod a ((i : Int)).toNat).path) = ((at_nod b ((i : Int)).toNat).path))) ∨ (¬ ((at_nod a ((i : Int)).toNat).mode) = ((at_nod b ((i : Int)).toNat).mode))) ∨ (¬ ((at_nod a ((i : Int)).toNat).target) = ((at_nod b ((i : Int)).toNat).target))) ∨ (¬ ((at_nod a ((i : Int)).toNat).cls) = ((at_nod b ((i : Int)).toNat).cls))) ∨ (¬ ((at_nod a ((i : Int)).toNat).data) = ((at_nod b ((i : Int)).toNat).data))))), (0, v), (1, u), (5, .int .i64 ((i : Int)))] _
  refine W_splitd rfl (fun y => ?_) (fun y => ?_)
  ·refine Wr ?_
   refine Av ?_
   refine Nx ?_
   refine W_sub _ (tk4 4 0 1 5) ?_
   refine W_ret (X_block_ret (X_then_ret (X_then_ret (X_block_ret (X_then_ret ?_)))))
   refine X_ret1 rfl rfl ?_
   have me3 := Nat.le_trans (Nat.le_trans hx.size hn1.ext.size) hp3.only.size
   exact ⟨by rw [lsame_false (fun e => by have h9 := e.2 i (by omega); exact y.elim (fun y => y.elim (fun y => y.elim (fun y => y.elim (fun y => y.elim (fun y => y h9.1.1.1.1.1) (fun y => y h9.1.1.1.1.2)) (fun y => y h9.1.1.1.2)) (fun y => y h9.1.1.2)) (fun y => y h9.1.2)) (fun y => y h9.2))], (me1.then' hp7.only (by simp) me3)⟩
  refine W_skip (X_block (X_then ?_))
  refine W_sub _ (tk3 0 1 5) ?_
  refine W_region ?_
  refine Mv ?_
  refine Ly (Y_add rfl rfl (by omega) (by omega)) ?_
  refine Av ?_
  refine L_nil ?_
  refine X_loop (i + 1) (tk3 0 1 5) ?_ ?_
  ·exact ⟨⟨by omega, step_ne h0 (by have h9 : nsame (at_nod a (i : Int).toNat) (at_nod b (i : Int).toNat) := (by unfold nsame; simp only [not_or, Classical.not_not] at y; exact y); exact h9)⟩, (me1.then' hp7.only (by simp) (Nat.le_trans (Nat.le_trans hx.size hn1.ext.size) hp3.only.size))⟩
  (try dsimp only)
  omega
 refine W_exit ?_
 refine X_then_exit (X_then_exit ?_)
 refine X_block_hit ?_
 refine X_then ?_
 refine W_sub _ sN ?_
 refine Wr ?_
 refine Av ?_
 refine L_nil (X_then (W_ret ?_))
 refine X_ret1 rfl rfl ?_
 exact ⟨by rw [lsame_iff.2 ⟨hlen, fun k hk => h0 k (by omega)⟩], hx⟩
end Go.Xp
