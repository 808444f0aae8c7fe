/- Layer 14 (flatten): the reference's Members, and Same: what the code does, step by step. -/
import Derived.Test.YtknimfbagbkjfaaDoorFlaA
import Derived.Test.YtknimfbagbkjfaaDoorTreeR
import Derived.Test.YtknimfbagbkjfaaDoorAppE
set_option linter.unusedSimpArgs false
set_option linter.unusedVariables false
set_option linter.unusedSectionVars false
namespace Go.Xp
open Go.Proofs

/-- Two members are the same, but for where their data lie. -/
def mnsame (x y : Mem) : Prop := ((((x.kind = y.kind ∧ x.path = y.path) ∧ x.mode = y.mode) ∧ x.target = y.target) ∧ x.size = y.size) ∧ x.data = y.data
theorem mnsame_erm {x y : Mem} : mnsame x y ↔ erm x = erm y := by
  unfold mnsame erm
  constructor
  · rintro ⟨⟨⟨⟨⟨h1, h2⟩, h3⟩, h4⟩, h5⟩, h6⟩; rw [h1, h2, h3, h4, h5, h6]
  · intro h; injection h with h1 h2 h3 h4 h5 h6 h7; exact ⟨⟨⟨⟨⟨h1, h2⟩, h3⟩, h4⟩, h5⟩, h7⟩
instance (x y : Mem) : Decidable (mnsame x y) := by unfold mnsame; infer_instance
def mlsame (a b : List Mem) : Bool := decide (a.length = b.length) && (List.range a.length).all fun k => decide (mnsame (at_mem a k) (at_mem b k))
theorem mlsame_iff {a b : List Mem} : mlsame a b = true ↔ a.length = b.length ∧ ∀ k, k < a.length → mnsame (at_mem a k) (at_mem b k) := by
  unfold mlsame; rw [Bool.and_eq_true, decide_eq_true_eq, List.all_eq_true]
  constructor
  · rintro ⟨h, h2⟩; exact ⟨h, fun k hk => of_decide_eq_true (h2 k (List.mem_range.2 hk))⟩
  · rintro ⟨h, h2⟩; exact ⟨h, fun k hk => decide_eq_true (h2 k (List.mem_range.1 hk))⟩
theorem mlsame_false {a b : List Mem} (h : ¬ (a.length = b.length ∧ ∀ k, k < a.length → mnsame (at_mem a k) (at_mem b k))) : mlsame a b = false := by
  rw [← Bool.not_eq_true, mlsame_iff]; exact h
theorem mlsame_erm {a b : List Mem} : mlsame a b = true ↔ a.map erm = b.map erm := by
  rw [mlsame_iff]
  constructor
  · rintro ⟨h1, h2⟩
    apply List.ext_getElem
    · simp [h1]
    · intro i q1 q2
      simp at q1 q2
      have := mnsame_erm.1 (h2 i q1)
      unfold at_mem at this
      rw [List.getD_eq_getElem?_getD, List.getD_eq_getElem?_getD, List.getElem?_eq_getElem q1, List.getElem?_eq_getElem q2] at this
      simp only [List.getElem_map]; exact this
  · intro h
    have hl : a.length = b.length := by have := congrArg List.length h; simpa using this
    refine ⟨hl, fun k hk => mnsame_erm.2 ?_⟩
    rw [← at_erm, ← at_erm, h]

set_option maxRecDepth 100000 in
theorem ref14_Same (h : Heap) (v : Value) (a : List Mem) (ha : Rows memS h v a) (u : Value) (b : List Mem) (hb : Rows memS h u b) (hl0 : a.length ≤ 140737488355328) : Cal Tryd.prog 27 #[v, u] h (fun v h' => v = .bool (mlsame a b) ∧ Ext h h') := by
 refine Cal_enter (args := [v, u]) Tryd.func27 rfl rfl rfl (fun σ => ?_)
 refine Wr ?_
 refine Av ?_
 refine L_nil (X_then (W_seq (W_seq (W_region ?_))))
 refine Mv ?_
 refine Ly (Y_lenr Tryd.underlying22 rfl ha) ?_
 refine Mv ?_
 refine Ly (Y_lenr Tryd.underlying22 rfl hb) ?_
 refine Ly (Y_neq rfl rfl) ?_
 refine Nx ?_
 refine W_sub _ (tk4 10 4 0 1) ?_
 refine W_splitd rfl (fun c => ?_) (fun c => ?_)
 ·refine Wr ?_
  refine Av ?_
  refine Nx ?_
  refine W_sub _ (tk3 4 0 1) ?_
  refine W_ret (X_then_ret ?_)
  refine X_ret1 rfl rfl ?_
  exact ⟨by rw [mlsame_false (fun e => c (by rw [e.1]))], (Ext.refl _)⟩
 refine Ws ?_
 refine W_sub _ (tk3 4 0 1) ?_
 have hlen : a.length = b.length := by omega
 refine W_seq (W_seq (W_region ?_))
 refine Av ?_
 refine L_nil (X_then (W_block ?_))
 refine W_loop (S := Nat) (fun i => [(0, v), (1, u), (5, .int .i64 ((i : Int)))]) (fun i h' => (i ≤ a.length ∧ ∀ k, k < i → mnsame (at_mem a k) (at_mem b k)) ∧ Ext h h') (fun i => a.length - i) 0 (tk3 0 1 5) ?_ ?_
 ·exact ⟨⟨by omega, fun k hk => absurd hk (Nat.not_lt_zero _)⟩, Ext.refl _⟩
 rintro i h1 ⟨⟨hi, h0⟩, hx⟩
 show W _ _ _ _ _ [(0, v), (1, u), (5, .int .i64 ((i : Int)))] _
 refine W_seq (W_seq (W_region ?_))
 refine Mv ?_
 refine Mv ?_
 refine Ly (Y_lenr Tryd.underlying22 rfl (ha.ext hx)) ?_
 refine Ly (Y_lss rfl rfl) ?_
 refine Nx ?_
 refine W_sub _ (tk4 14 0 1 5) ?_
 refine W_splitd rfl (fun hlt => ?_) (fun hlt => ?_)
 ·refine Ws ?_
  refine W_sub _ (tk3 0 1 5) ?_
  refine W_seq ?_
  by_cases g1 : (at_mem a i).kind = (at_mem b i).kind ∧ (at_mem a i).path = (at_mem b i).path ∧ (at_mem a i).mode = (at_mem b i).mode ∧ (at_mem a i).target = (at_mem b i).target ∧ (at_mem a i).size = (at_mem b i).size
  ·refine W_block (W_seq ?_)
   refine W_quiet (fun h' => h' = h1) (by kernel_rfl) (by kernel_rfl) rfl ?_
   refine LQ_yld (fun h_ hI_ => by subst hI_; exact Y_move rfl) rfl rfl rfl ?_
   refine LQ_yld (fun h_ hI_ => by subst hI_; exact Y_move rfl) rfl rfl rfl ?_
   refine LQ_yld (fun h_ hI_ => by subst hI_; exact Y_idxr Tryd.underlying22 (show _ = some 6 by kernel_rfl) rfl rfl rfl (ha.ext hx) (by omega) (by omega)) rfl rfl rfl ?_
   refine LQ_yld (fun h_ hI_ => by subst hI_; exact Y_fldr (k := ((i : Int)).toNat) (off := 0) (by kernel_rfl) rfl (ha.ext hx) (by omega)) rfl rfl rfl ?_
   refine LQ_yld (fun h_ hI_ => by subst hI_; exact Y_ldrA (off := 0) (k := ((i : Int)).toNat) (us := [.int .i64 ((at_mem a ((i : Int)).toNat).kind), str ((at_mem a ((i : Int)).toNat).path), .int .i64 ((at_mem a ((i : Int)).toNat).mode), str ((at_mem a ((i : Int)).toNat).target), .int .i64 ((at_mem a ((i : Int)).toNat).size)]) Tryd.underlying27 rfl (show _ = some 5 by kernel_rfl) rfl rfl (ha.ext hx) (by omega) rfl) rfl rfl rfl ?_
   refine LQ_yld (fun h_ hI_ => by subst hI_; exact Y_move rfl) rfl rfl rfl ?_
   refine LQ_yld (fun h_ hI_ => by subst hI_; exact Y_move rfl) rfl rfl rfl ?_
   refine LQ_yld (fun h_ hI_ => by subst hI_; exact Y_idxr Tryd.underlying22 (show _ = some 6 by kernel_rfl) rfl rfl rfl (hb.ext hx) (by omega) (by omega)) rfl rfl rfl ?_
   refine LQ_yld (fun h_ hI_ => by subst hI_; exact Y_fldr (k := ((i : Int)).toNat) (off := 0) (by kernel_rfl) rfl (hb.ext hx) (by omega)) rfl rfl rfl ?_
   refine LQ_yld (fun h_ hI_ => by subst hI_; exact Y_ldrA (off := 0) (k := ((i : Int)).toNat) (us := [.int .i64 ((at_mem b ((i : Int)).toNat).kind), str ((at_mem b ((i : Int)).toNat).path), .int .i64 ((at_mem b ((i : Int)).toNat).mode), str ((at_mem b ((i : Int)).toNat).target), .int .i64 ((at_mem b ((i : Int)).toNat).size)]) Tryd.underlying27 rfl (show _ = some 5 by kernel_rfl) rfl rfl (hb.ext hx) (by omega) rfl) rfl rfl rfl ?_
   refine LQ_yld (fun h_ hI_ => by subst hI_; exact Y_decneg (Y_stneq (xs := [.int .i64 ((at_mem a ((i : Int)).toNat).kind), str ((at_mem a ((i : Int)).toNat).path), .int .i64 ((at_mem a ((i : Int)).toNat).mode), str ((at_mem a ((i : Int)).toNat).target), .int .i64 ((at_mem a ((i : Int)).toNat).size)]) (ys := [.int .i64 ((at_mem b ((i : Int)).toNat).kind), str ((at_mem b ((i : Int)).toNat).path), .int .i64 ((at_mem b ((i : Int)).toNat).mode), str ((at_mem b ((i : Int)).toNat).target), .int .i64 ((at_mem b ((i : Int)).toNat).size)]) (r := decide (((at_mem a ((i : Int)).toNat).kind) = ((at_mem b ((i : Int)).toNat).kind) ∧ ((at_mem a ((i : Int)).toNat).path) = ((at_mem b ((i : Int)).toNat).path) ∧ ((at_mem a ((i : Int)).toNat).mode) = ((at_mem b ((i : Int)).toNat).mode) ∧ ((at_mem a ((i : Int)).toNat).target) = ((at_mem b ((i : Int)).toNat).target) ∧ ((at_mem a ((i : Int)).toNat).size) = ((at_mem b ((i : Int)).toNat).size))) (by kernel_rfl) (by kernel_rfl) (by kernel_rfl) rfl rfl (steq (ks := [.i .i64, .s, .i .i64, .s, .i .i64]) (by kernel_rfl) (by simp [eqks, eqk])))) rfl rfl rfl ?_
   refine LQ_yld (fun h_ hI_ => by subst hI_; exact Y_move rfl) rfl rfl rfl ?_
   refine LQ_known (d := 28) false rfl (by exact decide_eq_false (by exact fun q => q g1)) ?_
   refine LQ_yld (fun h_ hI_ => by subst hI_; exact Y_move rfl) rfl rfl rfl ?_
   refine LQ_yld (fun h_ hI_ => by subst hI_; exact Y_move rfl) rfl rfl rfl ?_
   refine LQ_yld (fun h_ hI_ => by subst hI_; exact Y_idxr Tryd.underlying22 (show _ = some 6 by kernel_rfl) rfl rfl rfl (ha.ext hx) (by omega) (by omega)) rfl rfl rfl ?_
   refine LQ_yld (fun h_ hI_ => by subst hI_; exact Y_fldr (k := ((i : Int)).toNat) (off := 5) (by kernel_rfl) rfl (ha.ext hx) (by omega)) rfl rfl rfl ?_
   refine LQ_yld (fun h_ hI_ => by subst hI_; exact Y_ldr1 (off := 5) (k := ((i : Int)).toNat) (u := ((at_mem a ((i : Int)).toNat).dv)) Tryd.underlying28 rfl rfl rfl (ha.ext hx) (by omega) rfl) rfl rfl rfl ?_
   refine LQ_yld (fun h_ hI_ => by subst hI_; exact Y_bytes_str Tryd.underlying28 Tryd.underlying5 Tryd.underlying9 rfl (show Bytes _ ((at_mem a ((i : Int)).toNat).dv) ((at_mem a ((i : Int)).toNat).data) from (ha.ext hx).okat (k := ((i : Int)).toNat) (by omega))) rfl rfl rfl ?_
   refine LQ_yld (fun h_ hI_ => by subst hI_; exact Y_move rfl) rfl rfl rfl ?_
   refine LQ_yld (fun h_ hI_ => by subst hI_; exact Y_move rfl) rfl rfl rfl ?_
   refine LQ_yld (fun h_ hI_ => by subst hI_; exact Y_idxr Tryd.underlying22 (show _ = some 6 by kernel_rfl) rfl rfl rfl (hb.ext hx) (by omega) (by omega)) rfl rfl rfl ?_
   refine LQ_yld (fun h_ hI_ => by subst hI_; exact Y_fldr (k := ((i : Int)).toNat) (off := 5) (by kernel_rfl) rfl (hb.ext hx) (by omega)) rfl rfl rfl ?_
   refine LQ_yld (fun h_ hI_ => by subst hI_; exact Y_ldr1 (off := 5) (k := ((i : Int)).toNat) (u := ((at_mem b ((i : Int)).toNat).dv)) Tryd.underlying28 rfl rfl rfl (hb.ext hx) (by omega) rfl) rfl rfl rfl ?_
   refine LQ_yld (fun h_ hI_ => by subst hI_; exact Y_bytes_str Tryd.underlying28 Tryd.underlying5 Tryd.underlying9 rfl (show Bytes _ ((at_mem b ((i : Int)).toNat).dv) ((at_mem b ((i : Int)).toNat).data) from (hb.ext hx).okat (k := ((i : Int)).toNat) (by omega))) rfl rfl rfl ?_
   refine LQ_yld (fun h_ hI_ => by subst hI_; exact Y_sneq rfl rfl) rfl rfl rfl ?_
   refine LQ_yld (fun h_ hI_ => by subst hI_; exact Y_pick_f rfl rfl) rfl rfl rfl ?_
   refine LQ_nil ?_
   rintro h1 rfl
   refine X_then ?_
   refine W_sub _ (tk4 42 0 1 5) ?_
   refine W_splitd rfl (fun y => ?_) (fun y => ?_)
   ·refine Wr ?_
    refine Av ?_
    refine Nx ?_
    refine W_sub _ (tk4 4 0 1 5) ?_
    refine W_ret (X_block_ret (X_then_ret (X_then_ret (X_block_ret (X_then_ret ?_)))))
    refine X_ret1 rfl rfl ?_
    exact ⟨by rw [mlsame_false (fun e => y (e.2 i (by omega)).2)], hx⟩
   refine W_skip (X_block (X_then ?_))
   refine W_sub _ (tk3 0 1 5) ?_
   refine W_region ?_
   refine Mv ?_
   refine Ly (Y_add rfl rfl (by omega) (by omega)) ?_
   refine Av ?_
   refine L_nil ?_
   refine X_loop (i + 1) (tk3 0 1 5) ?_ ?_
   ·exact ⟨⟨by omega, step_ne h0 ⟨⟨⟨⟨⟨g1.1, g1.2.1⟩, g1.2.2.1⟩, g1.2.2.2.1⟩, g1.2.2.2.2⟩, Classical.not_not.1 y⟩⟩, hx⟩
   (try dsimp only)
   omega
  refine W_block (W_seq ?_)
  refine W_quiet (fun h' => h' = h1) (by kernel_rfl) (by kernel_rfl) rfl ?_
  refine LQ_yld (fun h_ hI_ => by subst hI_; exact Y_move rfl) rfl rfl rfl ?_
  refine LQ_yld (fun h_ hI_ => by subst hI_; exact Y_move rfl) rfl rfl rfl ?_
  refine LQ_yld (fun h_ hI_ => by subst hI_; exact Y_idxr Tryd.underlying22 (show _ = some 6 by kernel_rfl) rfl rfl rfl (ha.ext hx) (by omega) (by omega)) rfl rfl rfl ?_
  refine LQ_yld (fun h_ hI_ => by subst hI_; exact Y_fldr (k := ((i : Int)).toNat) (off := 0) (by kernel_rfl) rfl (ha.ext hx) (by omega)) rfl rfl rfl ?_
  refine LQ_yld (fun h_ hI_ => by subst hI_; exact Y_ldrA (off := 0) (k := ((i : Int)).toNat) (us := [.int .i64 ((at_mem a ((i : Int)).toNat).kind), str ((at_mem a ((i : Int)).toNat).path), .int .i64 ((at_mem a ((i : Int)).toNat).mode), str ((at_mem a ((i : Int)).toNat).target), .int .i64 ((at_mem a ((i : Int)).toNat).size)]) Tryd.underlying27 rfl (show _ = some 5 by kernel_rfl) rfl rfl (ha.ext hx) (by omega) rfl) rfl rfl rfl ?_
  refine LQ_yld (fun h_ hI_ => by subst hI_; exact Y_move rfl) rfl rfl rfl ?_
  refine LQ_yld (fun h_ hI_ => by subst hI_; exact Y_move rfl) rfl rfl rfl ?_
  refine LQ_yld (fun h_ hI_ => by subst hI_; exact Y_idxr Tryd.underlying22 (show _ = some 6 by kernel_rfl) rfl rfl rfl (hb.ext hx) (by omega) (by omega)) rfl rfl rfl ?_
  refine LQ_yld (fun h_ hI_ => by subst hI_; exact Y_fldr (k := ((i : Int)).toNat) (off := 0) (by kernel_rfl) rfl (hb.ext hx) (by omega)) rfl rfl rfl ?_
  refine LQ_yld (fun h_ hI_ => by subst hI_; exact Y_ldrA (off := 0) (k := ((i : Int)).toNat) (us := [.int .i64 ((at_mem b ((i : Int)).toNat).kind), str ((at_mem b ((i : Int)).toNat).path), .int .i64 ((at_mem b ((i : Int)).toNat).mode), str ((at_mem b ((i : Int)).toNat).target), .int .i64 ((at_mem b ((i : Int)).toNat).size)]) Tryd.underlying27 rfl (show _ = some 5 by kernel_rfl) rfl rfl (hb.ext hx) (by omega) rfl) rfl rfl rfl ?_
  refine LQ_yld (fun h_ hI_ => by subst hI_; exact Y_decneg (Y_stneq (xs := [.int .i64 ((at_mem a ((i : Int)).toNat).kind), str ((at_mem a ((i : Int)).toNat).path), .int .i64 ((at_mem a ((i : Int)).toNat).mode), str ((at_mem a ((i : Int)).toNat).target), .int .i64 ((at_mem a ((i : Int)).toNat).size)]) (ys := [.int .i64 ((at_mem b ((i : Int)).toNat).kind), str ((at_mem b ((i : Int)).toNat).path), .int .i64 ((at_mem b ((i : Int)).toNat).mode), str ((at_mem b ((i : Int)).toNat).target), .int .i64 ((at_mem b ((i : Int)).toNat).size)]) (r := decide (((at_mem a ((i : Int)).toNat).kind) = ((at_mem b ((i : Int)).toNat).kind) ∧ ((at_mem a ((i : Int)).toNat).path) = ((at_mem b ((i : Int)).toNat).path) ∧ ((at_mem a ((i : Int)).toNat).mode) = ((at_mem b ((i : Int)).toNat).mode) ∧ ((at_mem a ((i : Int)).toNat).target) = ((at_mem b ((i : Int)).toNat).target) ∧ ((at_mem a ((i : Int)).toNat).size) = ((at_mem b ((i : Int)).toNat).size))) (by kernel_rfl) (by kernel_rfl) (by kernel_rfl) rfl rfl (steq (ks := [.i .i64, .s, .i .i64, .s, .i .i64]) (by kernel_rfl) (by simp [eqks, eqk])))) rfl rfl rfl ?_
  refine LQ_yld (fun h_ hI_ => by subst hI_; exact Y_move rfl) rfl rfl rfl ?_
  refine LQ_known (d := 28) true rfl (by exact decide_eq_true (by exact g1)) ?_
  refine LQ_skip rfl rfl rfl ?_
  refine LQ_skip rfl rfl rfl ?_
  refine LQ_skip rfl rfl rfl ?_
  refine LQ_skip rfl rfl rfl ?_
  refine LQ_skip rfl rfl rfl ?_
  refine LQ_skip rfl rfl rfl ?_
  refine LQ_skip rfl rfl rfl ?_
  refine LQ_skip rfl rfl rfl ?_
  refine LQ_skip rfl rfl rfl ?_
  refine LQ_skip rfl rfl rfl ?_
  refine LQ_skip rfl rfl rfl ?_
  refine LQ_skip rfl rfl rfl ?_
  refine LQ_skip rfl rfl rfl ?_
  refine LQ_yld (fun h_ hI_ => by subst hI_; exact Y_pick_t rfl rfl) rfl rfl rfl ?_
  refine LQ_nil ?_
  rintro h1 rfl
  refine X_then ?_
  refine W_sub _ (tk4 42 0 1 5) ?_
  refine W_true rfl ?_
  refine Wr ?_
  refine Av ?_
  refine Nx ?_
  refine W_sub _ (tk4 4 0 1 5) ?_
  refine W_ret (X_block_ret (X_then_ret (X_then_ret (X_block_ret (X_then_ret ?_)))))
  refine X_ret1 rfl rfl ?_
  exact ⟨by rw [mlsame_false (fun e => by have q := (e.2 i (by omega)).1; exact g1 ⟨q.1.1.1.1, q.1.1.1.2, q.1.1.2, q.1.2, q.2⟩)], hx⟩
 refine W_exit ?_
 refine X_then_exit (X_then_exit ?_)
 refine X_block_hit ?_
 refine X_then ?_
 refine W_sub _ sN ?_
 refine Wr ?_
 refine Av ?_
 refine L_nil (X_then (W_ret ?_))
 refine X_ret1 rfl rfl ?_
 exact ⟨by rw [mlsame_iff.2 ⟨hlen, fun k hk => h0 k (by omega)⟩], hx⟩
end Go.Xp
