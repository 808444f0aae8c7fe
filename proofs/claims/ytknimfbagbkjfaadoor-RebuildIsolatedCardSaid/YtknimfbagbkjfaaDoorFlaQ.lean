/- Layer 15 (rebuild): the reference's Members for every list that can be read. -/
import Derived.Test.YtknimfbagbkjfaaDoorCanI
import Derived.Test.YtknimfbagbkjfaaDoorFlaO
set_option linter.unusedSimpArgs false
set_option linter.unusedVariables false
set_option linter.unusedSectionVars false
namespace Go.Xp
open Go.Proofs

def okW9 (p t d : List UInt8) : Prop := p.length ≤ 140737488355328 ∧ t.length ≤ 140737488355328 ∧ d.length ≤ 140737488355328
theorem ref13_CanonW (h : Heap) (l : Value) (L : List Nod) (hL : Rows nodS h l L) (hm : L.length * 80 ≤ 140737488355328) (hs : ∀ x ∈ L, x.path.length ≤ 140737488355328 ∧ x.target.length ≤ 140737488355328 ∧ x.data.length ≤ 140737488355328) :
    Cal Tryd.prog 24 #[l] h (fun v h' => ∃ s0 L0, v = s0 ∧ Rows nodS h' s0 L0 ∧ (L0.length = L.length ∧ L0.map er = cno L) ∧ Ext h h') :=
  (ref13_CanonR h l L hL hm (fun x hx => ⟨(hs x hx).1, (hs x hx).2.2⟩)).mono fun v h' ⟨L', q1, q2, q3, x⟩ => ⟨v, L', rfl, q1, ⟨q2, by rw [q3, rcn_cno]⟩, x⟩
set_option maxRecDepth 100000 in
theorem ref14_leastW (h : Heap) (v : Value) (C : List Nod) (hC : Rows nodS h v C) (i : Nat) (hm : C.length * 80 ≤ 140737488355328) (hi : i < C.length) (hs : ∀ x ∈ C, x.path.length ≤ 140737488355328 ∧ x.target.length ≤ 140737488355328 ∧ x.data.length ≤ 140737488355328) : Cal Tryd.prog 43 #[v, .int .i64 ((i : Int))] h (fun v h' => v = .int .i64 ((lst C i C.length : Int)) ∧ h' = h) := by
 refine Cal_enter (args := [v, .int .i64 ((i : Int))]) Tryd.func43 rfl rfl rfl (fun σ => ?_)
 refine Wr ?_
 refine Av ?_
 refine L_nil (X_then (W_seq (W_region ?_)))
 refine Mv ?_
 refine Av ?_
 refine Nx ?_
 refine W_sub _ (tk4 5 4 0 1) ?_
 refine W_seq (W_seq (W_region ?_))
 refine Av ?_
 refine L_nil (X_then (W_block ?_))
 refine W_loop (S := Nat) (fun k => [(4, .int .i64 0), (0, v), (1, .int .i64 ((i : Int))), (5, .int .i64 ((lst C i k : Int))), (6, .int .i64 ((k : Int)))]) (fun k h' => k ≤ C.length ∧ h' = h) (fun k => C.length - k) 0 (tk5 4 0 1 5 6) ?_ ?_
 ·exact ⟨Nat.zero_le _, rfl⟩
 rintro k h ⟨hk, rfl⟩
 show W _ _ _ _ _ [(4, .int .i64 0), (0, v), (1, .int .i64 ((i : Int))), (5, .int .i64 ((lst C i k : Int))), (6, .int .i64 ((k : Int)))] _
 have hlk := lst_lt hi k hk
 refine W_seq (W_seq (W_region ?_))
 refine Mv ?_
 refine Mv ?_
 refine Ly (Y_lenr Tryd.underlying32 rfl hC) ?_
 refine Ly (Y_lss rfl rfl) ?_
 refine Nx ?_
 refine W_sub _ (tk6 11 4 0 1 5 6) ?_
 refine W_splitd rfl (fun c => ?_) (fun c => ?_)
 ·refine Ws ?_
  refine W_sub _ (tk5 4 0 1 5 6) ?_
  have hp1 := hs _ (can_mem (l := C) (k := k) (by omega))
  have hp2 := hs _ (can_mem (l := C) (k := lst C i k) (by omega))
  refine W_seq ?_
  by_cases g1 : 0 < (at_nod C i).cls
  ·by_cases g2 : (at_nod C k).cls = (at_nod C i).cls
   ·refine W_block (W_seq ?_)
    refine W_quiet (fun h' => h' = h) (by kernel_rfl) (by kernel_rfl) rfl ?_
    refine LQ_yld (fun h_ hI_ => by subst hI_; exact Y_move rfl) rfl rfl rfl ?_
    refine LQ_yld (fun h_ hI_ => by subst hI_; exact Y_move rfl) rfl rfl rfl ?_
    refine LQ_yld (fun h_ hI_ => by subst hI_; exact Y_idxr Tryd.underlying32 (show _ = some 6 by kernel_rfl) rfl rfl rfl hC (by omega) (by omega)) rfl rfl rfl ?_
    refine LQ_yld (fun h_ hI_ => by subst hI_; exact Y_fldr (k := ((i : Int)).toNat) (off := 5) (by kernel_rfl) rfl hC (by omega)) rfl rfl rfl ?_
    refine LQ_yld (fun h_ hI_ => by subst hI_; exact Y_ldr1 (off := 5) (k := ((i : Int)).toNat) (u := .int .i64 ((at_nod C ((i : Int)).toNat).cls)) Tryd.underlying3 rfl rfl rfl hC (by omega) rfl) rfl rfl rfl ?_
    refine LQ_yld (fun h_ hI_ => by subst hI_; exact Y_gtr rfl rfl) rfl rfl rfl ?_
    refine LQ_yld (fun h_ hI_ => by subst hI_; exact Y_move rfl) rfl rfl rfl ?_
    refine LQ_known (d := 20) true rfl (by exact decide_eq_true (by exact g1)) ?_
    refine LQ_yld (fun h_ hI_ => by subst hI_; exact Y_move rfl) rfl rfl rfl ?_
    refine LQ_yld (fun h_ hI_ => by subst hI_; exact Y_move rfl) rfl rfl rfl ?_
    refine LQ_yld (fun h_ hI_ => by subst hI_; exact Y_idxr Tryd.underlying32 (show _ = some 6 by kernel_rfl) rfl rfl rfl hC (by omega) (by omega)) rfl rfl rfl ?_
    refine LQ_yld (fun h_ hI_ => by subst hI_; exact Y_fldr (k := ((k : Int)).toNat) (off := 5) (by kernel_rfl) rfl hC (by omega)) rfl rfl rfl ?_
    refine LQ_yld (fun h_ hI_ => by subst hI_; exact Y_ldr1 (off := 5) (k := ((k : Int)).toNat) (u := .int .i64 ((at_nod C ((k : Int)).toNat).cls)) Tryd.underlying3 rfl rfl rfl hC (by omega) rfl) rfl rfl rfl ?_
    refine LQ_yld (fun h_ hI_ => by subst hI_; exact Y_move rfl) rfl rfl rfl ?_
    refine LQ_yld (fun h_ hI_ => by subst hI_; exact Y_move rfl) rfl rfl rfl ?_
    refine LQ_yld (fun h_ hI_ => by subst hI_; exact Y_idxr Tryd.underlying32 (show _ = some 6 by kernel_rfl) rfl rfl rfl hC (by omega) (by omega)) rfl rfl rfl ?_
    refine LQ_yld (fun h_ hI_ => by subst hI_; exact Y_fldr (k := ((i : Int)).toNat) (off := 5) (by kernel_rfl) rfl hC (by omega)) rfl rfl rfl ?_
    refine LQ_yld (fun h_ hI_ => by subst hI_; exact Y_ldr1 (off := 5) (k := ((i : Int)).toNat) (u := .int .i64 ((at_nod C ((i : Int)).toNat).cls)) Tryd.underlying3 rfl rfl rfl hC (by omega) rfl) rfl rfl rfl ?_
    refine LQ_yld (fun h_ hI_ => by subst hI_; exact Y_eql rfl rfl) rfl rfl rfl ?_
    refine LQ_yld (fun h_ hI_ => by subst hI_; exact Y_pick_t rfl rfl) rfl rfl rfl ?_
    refine LQ_yld (fun h_ hI_ => by subst hI_; exact Y_move rfl) rfl rfl rfl ?_
    refine LQ_known (d := 33) true rfl (by exact decide_eq_true (by exact g2)) ?_
    refine LQ_yld (fun h_ hI_ => by subst hI_; exact Y_move rfl) rfl rfl rfl ?_
    refine LQ_yld (fun h_ hI_ => by subst hI_; exact Y_move rfl) rfl rfl rfl ?_
    refine LQ_yld (fun h_ hI_ => by subst hI_; exact Y_idxr Tryd.underlying32 (show _ = some 6 by kernel_rfl) rfl rfl rfl hC (by omega) (by omega)) rfl rfl rfl ?_
    refine LQ_yld (fun h_ hI_ => by subst hI_; exact Y_fldr (k := ((k : Int)).toNat) (off := 1) (by kernel_rfl) rfl hC (by omega)) rfl rfl rfl ?_
    refine LQ_yld (fun h_ hI_ => by subst hI_; exact Y_ldr1 (off := 1) (k := ((k : Int)).toNat) (u := str ((at_nod C ((k : Int)).toNat).path)) Tryd.underlying9 rfl rfl rfl hC (by omega) rfl) rfl rfl rfl ?_
    refine LQ_yld (fun h_ hI_ => by subst hI_; exact Y_move rfl) rfl rfl rfl ?_
    refine LQ_yld (fun h_ hI_ => by subst hI_; exact Y_move rfl) rfl rfl rfl ?_
    refine LQ_yld (fun h_ hI_ => by subst hI_; exact Y_idxr Tryd.underlying32 (show _ = some 6 by kernel_rfl) rfl rfl rfl hC (by omega) (by omega)) rfl rfl rfl ?_
    refine LQ_yld (fun h_ hI_ => by subst hI_; exact Y_fldr (k := ((lst C i k : Int)).toNat) (off := 1) (by kernel_rfl) rfl hC (by omega)) rfl rfl rfl ?_
    refine LQ_yld (fun h_ hI_ => by subst hI_; exact Y_ldr1 (off := 1) (k := ((lst C i k : Int)).toNat) (u := str ((at_nod C ((lst C i k : Int)).toNat).path)) Tryd.underlying9 rfl rfl rfl hC (by omega) rfl) rfl rfl rfl ?_
    refine LQ_call (v := .int .i64 (pcmp ((at_nod C ((k : Int)).toNat).path) ((at_nod C ((lst C i k : Int)).toNat).path))) (fun _ _ => E_call (by kernel_rfl) rfl) (fun h_ hI_ => by subst hI_; exact (ref08_Compare _ ((at_nod C ((k : Int)).toNat).path) ((at_nod C ((lst C i k : Int)).toNat).path) (by first | omega | rfl | (simp <;> omega)))) rfl rfl rfl ?_
    refine LQ_yld (fun h_ hI_ => by subst hI_; exact Y_lss rfl rfl) rfl rfl rfl ?_
    refine LQ_yld (fun h_ hI_ => by subst hI_; exact Y_pick_t rfl rfl) rfl rfl rfl ?_
    refine LQ_nil ?_
    rintro h rfl
    refine X_then ?_
    refine W_sub _ (tk6 46 4 0 1 5 6) ?_
    refine W_splitd rfl (fun d => ?_) (fun d => ?_)
    ·refine W_region ?_
     refine Mv ?_
     refine Av ?_
     refine L_nil (X_block (X_then ?_))
     refine W_sub _ (tk5 5 4 0 1 6) ?_
     refine W_region ?_
     refine Mv ?_
     refine Ly (Y_add rfl rfl (by omega) (by omega)) ?_
     refine Av ?_
     refine L_nil ?_
     refine X_loop (k + 1) (sk3 4 0 1 rfl rfl rfl (sk1 5 (lki rfl (by rw [lst_y (k := k) g1 g2 d])) (tk1 6))) ?_ ?_
     ·exact ⟨by omega, rfl⟩
     (try dsimp only)
     omega
    refine W_skip (X_block (X_then ?_))
    refine W_sub _ (tk5 4 0 1 5 6) ?_
    refine W_region ?_
    refine Mv ?_
    refine Ly (Y_add rfl rfl (by omega) (by omega)) ?_
    refine Av ?_
    refine L_nil ?_
    refine X_loop (k + 1) (sk3 4 0 1 rfl rfl rfl (sk1 5 (lki rfl (by rw [lst_n (k := k) (fun q => d q.2)])) (tk1 6))) ?_ ?_
    ·exact ⟨by omega, rfl⟩
    (try dsimp only)
    omega
   refine W_block (W_seq ?_)
   refine W_quiet (fun h' => h' = h) (by kernel_rfl) (by kernel_rfl) rfl ?_
   refine LQ_yld (fun h_ hI_ => by subst hI_; exact Y_move rfl) rfl rfl rfl ?_
   refine LQ_yld (fun h_ hI_ => by subst hI_; exact Y_move rfl) rfl rfl rfl ?_
   refine LQ_yld (fun h_ hI_ => by subst hI_; exact Y_idxr Tryd.underlying32 (show _ = some 6 by kernel_rfl) rfl rfl rfl hC (by omega) (by omega)) rfl rfl rfl ?_
   refine LQ_yld (fun h_ hI_ => by subst hI_; exact Y_fldr (k := ((i : Int)).toNat) (off := 5) (by kernel_rfl) rfl hC (by omega)) rfl rfl rfl ?_
   refine LQ_yld (fun h_ hI_ => by subst hI_; exact Y_ldr1 (off := 5) (k := ((i : Int)).toNat) (u := .int .i64 ((at_nod C ((i : Int)).toNat).cls)) Tryd.underlying3 rfl rfl rfl hC (by omega) rfl) rfl rfl rfl ?_
   refine LQ_yld (fun h_ hI_ => by subst hI_; exact Y_gtr rfl rfl) rfl rfl rfl ?_
   refine LQ_yld (fun h_ hI_ => by subst hI_; exact Y_move rfl) rfl rfl rfl ?_
   refine LQ_known (d := 20) true rfl (by exact decide_eq_true (by exact g1)) ?_
   refine LQ_yld (fun h_ hI_ => by subst hI_; exact Y_move rfl) rfl rfl rfl ?_
   refine LQ_yld (fun h_ hI_ => by subst hI_; exact Y_move rfl) rfl rfl rfl ?_
   refine LQ_yld (fun h_ hI_ => by subst hI_; exact Y_idxr Tryd.underlying32 (show _ = some 6 by kernel_rfl) rfl rfl rfl hC (by omega) (by omega)) rfl rfl rfl ?_
   refine LQ_yld (fun h_ hI_ => by subst hI_; exact Y_fldr (k := ((k : Int)).toNat) (off := 5) (by kernel_rfl) rfl hC (by omega)) rfl rfl rfl ?_
   refine LQ_yld (fun h_ hI_ => by subst hI_; exact Y_ldr1 (off := 5) (k := ((k : Int)).toNat) (u := .int .i64 ((at_nod C ((k : Int)).toNat).cls)) Tryd.underlying3 rfl rfl rfl hC (by omega) rfl) rfl rfl rfl ?_
   refine LQ_yld (fun h_ hI_ => by subst hI_; exact Y_move rfl) rfl rfl rfl ?_
   refine LQ_yld (fun h_ hI_ => by subst hI_; exact Y_move rfl) rfl rfl rfl ?_
   refine LQ_yld (fun h_ hI_ => by subst hI_; exact Y_idxr Tryd.underlying32 (show _ = some 6 by kernel_rfl) rfl rfl rfl hC (by omega) (by omega)) rfl rfl rfl ?_
   refine LQ_yld (fun h_ hI_ => by subst hI_; exact Y_fldr (k := ((i : Int)).toNat) (off := 5) (by kernel_rfl) rfl hC (by omega)) rfl rfl rfl ?_
   refine LQ_yld (fun h_ hI_ => by subst hI_; exact Y_ldr1 (off := 5) (k := ((i : Int)).toNat) (u := .int .i64 ((at_nod C ((i : Int)).toNat).cls)) Tryd.underlying3 rfl rfl rfl hC (by omega) rfl) rfl rfl rfl ?_
   refine LQ_yld (fun h_ hI_ => by subst hI_; exact Y_eql rfl rfl) rfl rfl rfl ?_
   refine LQ_yld (fun h_ hI_ => by subst hI_; exact Y_pick_t rfl rfl) rfl rfl rfl ?_
   refine LQ_yld (fun h_ hI_ => by subst hI_; exact Y_move rfl) rfl rfl rfl ?_
   refine LQ_known (d := 33) false rfl (by exact decide_eq_false (by exact g2)) ?_
   refine LQ_skip rfl rfl rfl ?_
   refine LQ_skip rfl rfl rfl ?_
   refine LQ_skip rfl rfl rfl ?_
   refine LQ_skip rfl rfl rfl ?_
   refine LQ_skip rfl rfl rfl ?_
   refine LQ_skip rfl rfl rfl ?_
   refine LQ_skip rfl rfl rfl ?_
   refine LQ_skip rfl rfl rfl ?_
   refine LQ_skip rfl rfl rfl ?_
   refine LQ_skip rfl rfl rfl ?_
   refine LQ_skip rfl rfl rfl ?_
   refine LQ_skip rfl rfl rfl ?_
   refine LQ_yld (fun h_ hI_ => by subst hI_; exact Y_pick_f rfl rfl) rfl rfl rfl ?_
   refine LQ_nil ?_
   rintro h rfl
   refine X_then ?_
   refine W_sub _ (tk6 46 4 0 1 5 6) ?_
   refine W_false rfl ?_
   refine W_skip (X_block (X_then ?_))
   refine W_sub _ (tk5 4 0 1 5 6) ?_
   refine W_region ?_
   refine Mv ?_
   refine Ly (Y_add rfl rfl (by omega) (by omega)) ?_
   refine Av ?_
   refine L_nil ?_
   refine X_loop (k + 1) (sk3 4 0 1 rfl rfl rfl (sk1 5 (lki rfl (by rw [lst_n (k := k) (fun q => g2 q.1.2)])) (tk1 6))) ?_ ?_
   ·exact ⟨by omega, rfl⟩
   (try dsimp only)
   omega
  refine W_block (W_seq ?_)
  refine W_quiet (fun h' => h' = h) (by kernel_rfl) (by kernel_rfl) rfl ?_
  refine LQ_yld (fun h_ hI_ => by subst hI_; exact Y_move rfl) rfl rfl rfl ?_
  refine LQ_yld (fun h_ hI_ => by subst hI_; exact Y_move rfl) rfl rfl rfl ?_
  refine LQ_yld (fun h_ hI_ => by subst hI_; exact Y_idxr Tryd.underlying32 (show _ = some 6 by kernel_rfl) rfl rfl rfl hC (by omega) (by omega)) rfl rfl rfl ?_
  refine LQ_yld (fun h_ hI_ => by subst hI_; exact Y_fldr (k := ((i : Int)).toNat) (off := 5) (by kernel_rfl) rfl hC (by omega)) rfl rfl rfl ?_
  refine LQ_yld (fun h_ hI_ => by subst hI_; exact Y_ldr1 (off := 5) (k := ((i : Int)).toNat) (u := .int .i64 ((at_nod C ((i : Int)).toNat).cls)) Tryd.underlying3 rfl rfl rfl hC (by omega) rfl) rfl rfl rfl ?_
  refine LQ_yld (fun h_ hI_ => by subst hI_; exact Y_gtr rfl rfl) rfl rfl rfl ?_
  refine LQ_yld (fun h_ hI_ => by subst hI_; exact Y_move rfl) rfl rfl rfl ?_
  refine LQ_known (d := 20) false rfl (by exact decide_eq_false (by exact g1)) ?_
  refine LQ_skip rfl rfl rfl ?_
  refine LQ_skip rfl rfl rfl ?_
  refine LQ_skip rfl rfl rfl ?_
  refine LQ_skip rfl rfl rfl ?_
  refine LQ_skip rfl rfl rfl ?_
  refine LQ_skip rfl rfl rfl ?_
  refine LQ_skip rfl rfl rfl ?_
  refine LQ_skip rfl rfl rfl ?_
  refine LQ_skip rfl rfl rfl ?_
  refine LQ_skip rfl rfl rfl ?_
  refine LQ_skip rfl rfl rfl ?_
  refine LQ_yld (fun h_ hI_ => by subst hI_; exact Y_pick_f rfl rfl) rfl rfl rfl ?_
  refine LQ_yld (fun h_ hI_ => by subst hI_; exact Y_move rfl) rfl rfl rfl ?_
  refine LQ_skip rfl rfl rfl ?_
  refine LQ_skip rfl rfl rfl ?_
  refine LQ_skip rfl rfl rfl ?_
  refine LQ_skip rfl rfl rfl ?_
  refine LQ_skip rfl rfl rfl ?_
  refine LQ_skip rfl rfl rfl ?_
  refine LQ_skip rfl rfl rfl ?_
  refine LQ_skip rfl rfl rfl ?_
  refine LQ_skip rfl rfl rfl ?_
  refine LQ_skip rfl rfl rfl ?_
  refine LQ_skip rfl rfl rfl ?_
  refine LQ_skip rfl rfl rfl ?_
  refine LQ_yld (fun h_ hI_ => by subst hI_; exact Y_pick_f rfl rfl) rfl rfl rfl ?_
  refine LQ_nil ?_
  rintro h rfl
  refine X_then ?_
  refine W_sub _ (tk6 46 4 0 1 5 6) ?_
  refine W_false rfl ?_
  refine W_skip (X_block (X_then ?_))
  refine W_sub _ (tk5 4 0 1 5 6) ?_
  refine W_region ?_
  refine Mv ?_
  refine Ly (Y_add rfl rfl (by omega) (by omega)) ?_
  refine Av ?_
  refine L_nil ?_
  refine X_loop (k + 1) (sk3 4 0 1 rfl rfl rfl (sk1 5 (lki rfl (by rw [lst_n (k := k) (fun q => g1 q.1.1)])) (tk1 6))) ?_ ?_
  ·exact ⟨by omega, rfl⟩
  (try dsimp only)
  omega
 refine W_exit ?_
 refine X_then_exit (X_then_exit ?_)
 refine X_block_hit ?_
 refine X_then ?_
 refine W_sub _ (tk2 4 5) ?_
 refine Wr ?_
 refine Mv ?_
 refine Av ?_
 refine Nx ?_
 refine W_sub _ (tk1 4) ?_
 refine W_ret ?_
 refine X_ret1 rfl rfl ?_
 exact ⟨by rw [show k = C.length by omega], rfl⟩
set_option maxRecDepth 100000 in
theorem ref14_MembersW (h : Heap) (w : Value) (l : List Nod) (hl : Rows nodS h w l) (hm : l.length * 80 ≤ 140737488355328) (hs : ∀ x ∈ l, x.path.length ≤ 140737488355328 ∧ x.target.length ≤ 140737488355328 ∧ x.data.length ≤ 140737488355328) : Cal Tryd.prog 22 #[w] h (fun v h' => ∃ s0 L0, v = .tuple #[s0, .int .i64 (tpos l), .int .i64 (terr l)] ∧ Rows memS h' s0 L0 ∧ (L0.map erm = mbs l) ∧ Ext h h') := by
 refine Cal_enter (args := [w]) Tryd.func22 rfl rfl rfl (fun σ => ?_)
 refine Wr ?_
 refine Av ?_
 refine Av ?_
 refine Av ?_
 refine L_nil (X_then (W_seq (W_region ?_)))
 refine Mv ?_
 refine L_call (E_call (by kernel_rfl) rfl) (ref13_Check _ w l hl (by omega) (fun x hx => by have := hs x hx; omega)) rfl rfl rfl ?_
 rintro _ h1 ⟨rfl, hx1⟩
 refine Mv ?_
 refine Ly (Y_extract (v := .int .i64 (tpos l)) rfl rfl) ?_
 refine Ly (Y_extract (v := .int .i64 (terr l)) rfl rfl) ?_
 refine Av ?_
 refine Av ?_
 refine Nx ?_
 refine W_sub _ (tk6 6 5 4 3 2 0) ?_
 refine W_seq (W_seq (W_region ?_))
 refine Mv ?_
 refine Ly (Y_neq rfl rfl) ?_
 refine Nx ?_
 refine W_sub _ (tk7 17 6 5 4 3 2 0) ?_
 refine W_splitd rfl (fun e => ?_) (fun e => ?_)
 ·refine Wr ?_
  refine Mv ?_
  refine Mv ?_
  refine Av ?_
  refine Av ?_
  refine Av ?_
  refine Nx ?_
  refine W_sub _ (tk4 4 3 2 0) ?_
  refine W_ret (X_then_ret ?_)
  refine X_ret3 rfl rfl rfl rfl ?_
  exact ⟨_, [], rfl, Rows.nil memS _, by unfold mbs; rw [if_neg e]; rfl, hx1⟩
 refine Ws ?_
 refine W_sub _ (tk4 4 3 2 0) ?_
 have hz := Classical.not_not.1 e
 refine Wr ?_
 refine Mv ?_
 refine L_call (E_call (by kernel_rfl) rfl) (ref13_CanonW _ w l (hl.ext hx1) hm hs) rfl rfl rfl ?_
 rintro s02 h2 ⟨_, L03, rfl, hr04, hq05, hx6⟩
 refine Av ?_
 refine Nx ?_
 refine W_sub _ (tk4 0 4 3 2) ?_
 refine Wr ?_
 refine Av ?_
 refine L_nil (X_then (W_seq (W_seq (W_region ?_))))
 refine Av ?_
 refine Nx ?_
 have hqC := hq05
 have hsC := can_all (P := okW9) hq05 hs
 refine W_block ?_
 refine W_loop (S := Nat × List Mem × Value) (fun (i, O, vo) => [(0, s02), (4, .int .i64 0), (3, .int .i64 0), (2, .slice none 0 0), (7, vo), (8, .int .i64 ((i : Int)))]) (fun (i, O, vo) h' => i ≤ (L03).length ∧ O.length = i ∧ O.map erm = (List.range i).map (rmem ((L03).map er)) ∧ (∀ x ∈ O, memS.ok h' x) ∧ (∀ x ∈ O, ∀ b, blk2 x.dv = some b → b ∉ (blockOf vo).toList) ∧ Ext h2 h' ∧ RowsO memS h' h2.size vo O) (fun (i, O, vo) => (L03).length - i) (0, [], .slice none 0 0) (tk6 0 4 3 2 7 8) ?_ ?_
 ·exact ⟨Nat.zero_le _, rfl, rfl, (fun x hx => by cases hx), (fun x hx => by cases hx), Ext.refl _, RowsO.nil _ _ _⟩
 rintro ⟨i, O, vo⟩ h3 ⟨hi, hlO, hTO, hkB, hpB, hxB, hoB⟩
 show W _ _ _ _ _ [(0, s02), (4, .int .i64 0), (3, .int .i64 0), (2, .slice none 0 0), (7, vo), (8, .int .i64 ((i : Int)))] _
 refine W_seq (W_seq (W_region ?_))
 refine Mv ?_
 refine Mv ?_
 refine Ly (Y_lenr Tryd.underlying32 rfl (hr04.ext hxB)) ?_
 refine Ly (Y_lss rfl rfl) ?_
 refine Nx ?_
 refine W_sub _ (tk7 25 0 4 3 2 7 8) ?_
 refine W_splitd rfl (fun c => ?_) (fun c => ?_)
 ·refine Ws ?_
  refine W_sub _ (tk6 0 4 3 2 7 8) ?_
  have hmm : okW9 (at_nod L03 i).path (at_nod L03 i).target (at_nod L03 i).data := hsC _ (can_mem (k := i) (by omega))
  unfold okW9 at hmm
  refine W_seq (W_block (W_seq (W_region ?_)))
  refine Mv ?_
  refine Mv ?_
  refine Ly (Y_idxr Tryd.underlying32 (show _ = some 6 by kernel_rfl) rfl rfl rfl (hr04.ext hxB) (by omega) (by omega)) ?_
  refine Ly (Y_ldrA0 (k := ((i : Int)).toNat) (us := [.int .i64 ((at_nod L03 ((i : Int)).toNat).kind), str ((at_nod L03 ((i : Int)).toNat).path), .int .i64 ((at_nod L03 ((i : Int)).toNat).mode), str ((at_nod L03 ((i : Int)).toNat).target), ((at_nod L03 ((i : Int)).toNat).dv), .int .i64 ((at_nod L03 ((i : Int)).toNat).cls)]) Tryd.underlying48 rfl (show _ = some 6 by kernel_rfl) rfl rfl (hr04.ext hxB) (by omega) rfl) ?_
  refine L_call (E_call (by kernel_rfl) rfl) (ref13_Entry _ (at_nod L03 ((i : Int)).toNat) (show Bytes _ ((at_nod L03 ((i : Int)).toNat).dv) ((at_nod L03 ((i : Int)).toNat).data) from (hr04.ext hxB).okat (k := ((i : Int)).toNat) (by omega)) (by show (at_nod L03 i).data.length ≤ _; omega)) rfl rfl rfl ?_
  rintro _ h4 ⟨rfl, hx7⟩
  refine Ly (Y_build (v := .agg #[.int .i64 ((at_nod L03 ((i : Int)).toNat).kind), str ((at_nod L03 ((i : Int)).toNat).path), .int .i64 ((at_nod L03 ((i : Int)).toNat).mode), str ((at_nod L03 ((i : Int)).toNat).target), .int .i64 (nsize (at_nod L03 ((i : Int)).toNat)), .slice none 0 0]) (pv := [(0, .agg #[.int .i64 ((at_nod L03 ((i : Int)).toNat).kind), str ((at_nod L03 ((i : Int)).toNat).path), .int .i64 ((at_nod L03 ((i : Int)).toNat).mode), str ((at_nod L03 ((i : Int)).toNat).target), .int .i64 (nsize (at_nod L03 ((i : Int)).toNat))])]) (evp (is := [0]) (os := [.tmp 32]) (vs := [.agg #[.int .i64 ((at_nod L03 ((i : Int)).toNat).kind), str ((at_nod L03 ((i : Int)).toNat).path), .int .i64 ((at_nod L03 ((i : Int)).toNat).mode), str ((at_nod L03 ((i : Int)).toNat).target), .int .i64 (nsize (at_nod L03 ((i : Int)).toNat))]]) rfl rfl) (fun _ => by kernel_rfl)) ?_
  refine L_mks (M_alloc (u := .agg #[.int .i64 0, str [], .int .i64 0, str [], .int .i64 0, .slice none 0 0]) (by kernel_rfl)) rfl rfl rfl ?_
  rintro _ h5 ⟨rfl, hn8⟩
  have hk9 : Blk h5 h4.size [.int .i64 0, str [], .int .i64 0, str [], .int .i64 0, .slice none 0 0] := hn8.blk
  refine L_dos (D_store (us := [.int .i64 ((at_nod L03 ((i : Int)).toNat).kind), str ((at_nod L03 ((i : Int)).toNat).path), .int .i64 ((at_nod L03 ((i : Int)).toNat).mode), str ((at_nod L03 ((i : Int)).toNat).target), .int .i64 (nsize (at_nod L03 ((i : Int)).toNat)), .slice none 0 0]) (show _ = some 6 by kernel_rfl) rfl rfl rfl (by simp [Value.oneCell']) hk9 (by simp)) rfl rfl ?_
  rintro h6 hp10
  have hk11 : Blk h6 h4.size [.int .i64 ((at_nod L03 ((i : Int)).toNat).kind), str ((at_nod L03 ((i : Int)).toNat).path), .int .i64 ((at_nod L03 ((i : Int)).toNat).mode), str ((at_nod L03 ((i : Int)).toNat).target), .int .i64 (nsize (at_nod L03 ((i : Int)).toNat)), .slice none 0 0] := hp10.blk
  refine Nx ?_
  refine W_sub _ (tk7 9 0 4 3 2 7 8) ?_
  refine W_seq (W_seq (W_region ?_))
  refine Mv ?_
  refine Mv ?_
  have me1 := ((hxB.trans hx7).trans hn8.ext).then' hp10.only (by simp) (Nat.le_trans hxB.size hx7.size)
  refine Ly (Y_idxr Tryd.underlying32 (show _ = some 6 by kernel_rfl) rfl rfl rfl (hr04.ext me1) (by omega) (by omega)) ?_
  refine Ly (Y_fldr (k := ((i : Int)).toNat) (off := 0) (by kernel_rfl) rfl (hr04.ext me1) (by omega)) ?_
  refine Ly (Y_ldr1 (off := 0) (k := ((i : Int)).toNat) (u := .int .i64 ((at_nod L03 ((i : Int)).toNat).kind)) Tryd.underlying3 rfl rfl rfl (hr04.ext me1) (by omega) rfl) ?_
  refine Ly (Y_eql rfl rfl) ?_
  refine Nx ?_
  refine W_sub _ (tk8 39 9 0 4 3 2 7 8) ?_
  refine W_splitd rfl (fun a => ?_) (fun a => ?_)
  ·refine Wr ?_
   refine Mv ?_
   refine Mv ?_
   refine L_call (E_call (by kernel_rfl) rfl) (ref14_leastW _ s02 L03 (hr04.ext me1) i (by have := hqC.1; omega) (by omega) hsC) rfl rfl rfl ?_
   rintro _ h6 ⟨rfl, rfl⟩
   refine Av ?_
   refine Nx ?_
   refine W_sub _ (tk8 10 9 0 4 3 2 7 8) ?_
   have hll := lst_lt (C := L03) (i := i) (by omega) (L03).length (Nat.le_refl _)
   refine Wr ?_
   refine Mv ?_
   refine Mv ?_
   refine Ly (Y_eql rfl rfl) ?_
   refine Nx ?_
   refine W_sub _ (sk1 45 rfl (tk8 10 9 0 4 3 2 7 8)) ?_
   refine W_splitd rfl (fun b => ?_) (fun b => ?_)
   ·refine W_region ?_
    refine L_mks (M_litb (l := ([] : List UInt8)) (cells := []) (pv := []) (E := 5) (evp (is := []) (os := []) (vs := []) rfl rfl) rfl rfl (fun _ => by kernel_rfl)) rfl rfl rfl ?_
    rintro v12 h7 ⟨ho13, hx14⟩
    refine Mv ?_
    refine Mv ?_
    refine Ly (Y_idxr Tryd.underlying32 (show _ = some 6 by kernel_rfl) rfl rfl rfl (hr04.ext (me1.trans hx14)) (by omega) (by omega)) ?_
    refine Ly (Y_fldr (k := ((i : Int)).toNat) (off := 4) (by kernel_rfl) rfl (hr04.ext (me1.trans hx14)) (by omega)) ?_
    refine Ly (Y_ldr1 (off := 4) (k := ((i : Int)).toNat) (u := ((at_nod L03 ((i : Int)).toNat).dv)) Tryd.underlying28 rfl rfl rfl (hr04.ext (me1.trans hx14)) (by omega) rfl) ?_
    refine L_mks (M_appb Tryd.underlying28 (by unfold elemRow; kernel_rfl) rfl rfl ho13 (show Bytes _ ((at_nod L03 ((i : Int)).toNat).dv) ((at_nod L03 ((i : Int)).toNat).data) from (hr04.ext (me1.trans hx14)).okat (k := ((i : Int)).toNat) (by omega)) hx14.size (by first | omega | (simp; omega))) rfl rfl rfl ?_
    rintro v15 h8 ha16
    refine Ly (Y_fieldAddr (off := 5) (by kernel_rfl) rfl rfl) ?_
    refine L_dos (D_store (us := [v15]) (show _ = some 1 by kernel_rfl) rfl rfl (cells_slice ha16.own.bytes) (by intro u_ hu_; simp only [List.mem_cons, List.not_mem_nil, or_false] at hu_; rcases hu_ with rfl <;> first | rfl | exact (ha16.own.bytes).cell1) (hk11.ext (hx14.then' ha16.only ha16.ge (Nat.le_refl _))) (by simp)) rfl rfl ?_
    rintro h9 hp17
    have hk18 : Blk h9 h4.size [.int .i64 ((at_nod L03 ((i : Int)).toNat).kind), str ((at_nod L03 ((i : Int)).toNat).path), .int .i64 ((at_nod L03 ((i : Int)).toNat).mode), str ((at_nod L03 ((i : Int)).toNat).target), .int .i64 (nsize (at_nod L03 ((i : Int)).toNat)), v15] := hp17.blk
    refine Nx ?_
    refine W_sub _ (tk7 9 0 4 3 2 7 8) ?_
    have hn1 : Bytes h9 v15 (at_nod L03 i).data := (ha16.own.only1 hp17.only (Nat.lt_of_lt_of_le hk9.lt hp10.only.size)).bytes
    have me2 := Nat.le_trans (Nat.le_trans hx7.size hn8.ext.size) hp10.only.size
    have hn2 : ∀ b, blk2 v15 = some b → b ∉ (blockOf vo).toList := apOwn (ha16.own.only1 hp17.only (Nat.lt_of_lt_of_le hk9.lt hp10.only.size)) hoB me2
    have me3 := ((hx7.trans hn8.ext).then' hp10.only (by simp) hx7.size).trans hx14
    have me4 := (me3.then' ha16.only ha16.ge me2).then' hp17.only (by simp) hx7.size
    have hkA : ∀ x ∈ O, memS.ok h9 x := fun x hx => memS.ext (hkB x hx) me4
    refine W_region ?_
    refine Mv ?_
    refine Ly (Y_ldbox (us := [.int .i64 ((at_nod L03 ((i : Int)).toNat).kind), str ((at_nod L03 ((i : Int)).toNat).path), .int .i64 ((at_nod L03 ((i : Int)).toNat).mode), str ((at_nod L03 ((i : Int)).toNat).target), .int .i64 (nsize (at_nod L03 ((i : Int)).toNat)), v15]) Tryd.underlying30 rfl (show _ = some 6 by kernel_rfl) rfl hk18 rfl) ?_
    refine L_mks (M_litr (S := memS) (l := ([⟨(at_nod L03 ((i : Int)).toNat).kind, (at_nod L03 ((i : Int)).toNat).path, (at_nod L03 ((i : Int)).toNat).mode, (at_nod L03 ((i : Int)).toNat).target, nsize (at_nod L03 ((i : Int)).toNat), v15, (at_nod L03 ((i : Int)).toNat).data⟩] : List Mem)) (cells := [.int .i64 ((at_nod L03 ((i : Int)).toNat).kind), str ((at_nod L03 ((i : Int)).toNat).path), .int .i64 ((at_nod L03 ((i : Int)).toNat).mode), str ((at_nod L03 ((i : Int)).toNat).target), .int .i64 (nsize (at_nod L03 ((i : Int)).toNat)), v15]) (pv := [(0, .agg #[.int .i64 ((at_nod L03 ((i : Int)).toNat).kind), str ((at_nod L03 ((i : Int)).toNat).path), .int .i64 ((at_nod L03 ((i : Int)).toNat).mode), str ((at_nod L03 ((i : Int)).toNat).target), .int .i64 (nsize (at_nod L03 ((i : Int)).toNat)), v15])]) (E := 30) (evp (is := [0]) (os := [.tmp 72]) (vs := [.agg #[.int .i64 ((at_nod L03 ((i : Int)).toNat).kind), str ((at_nod L03 ((i : Int)).toNat).path), .int .i64 ((at_nod L03 ((i : Int)).toNat).mode), str ((at_nod L03 ((i : Int)).toNat).target), .int .i64 (nsize (at_nod L03 ((i : Int)).toNat)), v15]]) rfl rfl) rfl rfl (fun _ => by kernel_rfl) (by simp only [List.mem_cons, List.not_mem_nil, or_false, forall_eq_or_imp, forall_eq]; exact (ha16.own.only1 hp17.only (Nat.lt_of_lt_of_le hk9.lt hp10.only.size)).bytes)) rfl rfl rfl ?_
    rintro v19 h10 ⟨ho20, hx21⟩
    have hkD : ∀ x ∈ O, memS.ok h10 x := fun x hx => memS.ext (hkA x hx) hx21
    have hnD := Bytes.ext hn1 hx21
    have me5 := Nat.le_trans (Nat.le_trans hxB.size hx7.size) hn8.ext.size
    have me6 := Nat.le_trans (Nat.le_trans (Nat.le_trans me5 hp10.only.size) hx14.size) ha16.only.size
    refine L_mks (M_apprG (z := 6) (bytes := 80) (z0 := (.agg #[.int .i64 0, str [], .int .i64 0, str [], .int .i64 0, .slice none 0 0])) Tryd.underlying22 (by unfold elemRow; kernel_rfl) rfl rfl (by decide) rfl rfl (hoB.ext (me4.trans hx21)) ho20.rows (Nat.le_trans (Nat.le_trans me6 hp17.only.size) hx21.size) (by first | (simp; omega) | (simp; done) | omega) (fun h' y hge x hx => (List.mem_append.1 hx).elim (fun q => okR (hkD x q) y (hpB x q)) (fun q => by rw [List.mem_singleton.1 q]; exact okRb hnD y hn2))) rfl rfl rfl ?_
    rintro v22 h11 ⟨ha23, ha23l⟩
    refine Av ?_
    refine L_nil (X_block (X_then ?_))
    refine W_sub _ (tk6 7 0 4 3 2 8) ?_
    refine W_region ?_
    refine Mv ?_
    refine Ly (Y_add rfl rfl (by omega) (by omega)) ?_
    refine Av ?_
    refine L_nil ?_
    refine X_loop ((i + 1, (O ++ ([⟨(at_nod L03 ((i : Int)).toNat).kind, (at_nod L03 ((i : Int)).toNat).path, (at_nod L03 ((i : Int)).toNat).mode, (at_nod L03 ((i : Int)).toNat).target, nsize (at_nod L03 ((i : Int)).toNat), v15, (at_nod L03 ((i : Int)).toNat).data⟩] : List Mem)), v22)) (tk6 0 4 3 2 7 8) ?_ ?_
    ·exact ⟨by omega, by simp [hlO], rng_app hTO (by have a' : (at_nod L03 i).kind = 1 := a; rw [rmem_f (i := i) a (by omega)]; simp [erm, nsize, a']), all_app (P := fun x => memS.ok _ x) (fun x hx => (ha23.own).2 x (List.mem_append_left _ hx)) ((ha23.own).2 _ (by simp)), all_app (P := fun x => ∀ b, blk2 x.dv = some b → b ∉ (blockOf _).toList) (fun x hx => apR ha23l (hkD x hx) (hpB x hx)) (apRb ha23l hnD hn2), (((((me1.trans hx14).then' ha16.only ha16.ge (Nat.le_trans me5 hp10.only.size)).then' hp17.only (by simp) (Nat.le_trans hxB.size hx7.size)).trans hx21).then' ha23.only ha23.ge (Nat.le_refl _)), ha23.own⟩
    (try dsimp only)
    omega
   refine W_pers [(10, .int .i64 ((lst L03 i L03.length : Int))), (9, .pointer (some ⟨h4.size, 0, none⟩)), (0, s02), (4, .int .i64 0), (3, .int .i64 0), (2, .slice none 0 0), (7, vo), (8, .int .i64 ((i : Int)))] (tk8 10 9 0 4 3 2 7 8) (by kernel_rfl) ?_
   refine LP_op 0 (fun _ vv => s02 = vv) [] rfl rfl (by kernel_rfl) (fun _ _ _ _ p => p) ?_ ?_
   ·intro h12 hx24
    refine Needs_nil ?_
    refine Stp_yld (Y_move rfl) rfl ?_
    exact rfl
   refine LP_op 1 (fun _ vv => .int .i64 ((i : Int)) = vv) [] rfl rfl (by kernel_rfl) (fun _ _ _ _ p => p) ?_ ?_
   ·intro h13 hx25
    refine Needs_nil ?_
    refine Stp_yld (Y_move rfl) rfl ?_
    exact rfl
   refine LP_op 2 (fun _ vv => .pointer (some (elemAddr s02 (((i : Int)).toNat * 6))) = vv) [(0, 54), (1, 55)] rfl rfl (by kernel_rfl) (fun _ _ _ _ p => p) ?_ ?_
   ·intro h14 hx26
    rintro _ rfl
    rintro _ rfl
    refine Needs_nil ?_
    refine Stp_yld (Y_idxr Tryd.underlying32 (show _ = some 6 by kernel_rfl) rfl rfl rfl (hr04.ext ((((hxB.trans hx7).trans hn8.ext).then' hp10.only (by simp) (Nat.le_trans hxB.size hx7.size)).trans hx26)) (by omega) (by omega)) rfl ?_
    exact rfl
   refine LP_op 3 (fun _ vv => .pointer (some (elemAddr s02 (((i : Int)).toNat * 6 + 1))) = vv) [(2, 56)] rfl rfl (by kernel_rfl) (fun _ _ _ _ p => p) ?_ ?_
   ·intro h15 hx27
    rintro _ rfl
    refine Needs_nil ?_
    refine Stp_yld (Y_fldr (k := ((i : Int)).toNat) (off := 1) (by kernel_rfl) rfl (hr04.ext ((((hxB.trans hx7).trans hn8.ext).then' hp10.only (by simp) (Nat.le_trans hxB.size hx7.size)).trans hx27)) (by omega)) rfl ?_
    exact rfl
   refine LP_op 4 (fun _ vv => str ((at_nod L03 ((i : Int)).toNat).path) = vv) [(3, 57)] rfl rfl (by kernel_rfl) (fun _ _ _ _ p => p) ?_ ?_
   ·intro h16 hx28
    rintro _ rfl
    refine Needs_nil ?_
    refine Stp_yld (Y_ldr1 (off := 1) (k := ((i : Int)).toNat) (u := str ((at_nod L03 ((i : Int)).toNat).path)) Tryd.underlying9 rfl rfl rfl (hr04.ext ((((hxB.trans hx7).trans hn8.ext).then' hp10.only (by simp) (Nat.le_trans hxB.size hx7.size)).trans hx28)) (by omega) rfl) rfl ?_
    exact rfl
   refine LP_op 5 (fun _ vv => s02 = vv) [] rfl rfl (by kernel_rfl) (fun _ _ _ _ p => p) ?_ ?_
   ·intro h17 hx29
    refine Needs_nil ?_
    refine Stp_yld (Y_move rfl) rfl ?_
    exact rfl
   refine LP_op 6 (fun _ vv => .int .i64 ((i : Int)) = vv) [] rfl rfl (by kernel_rfl) (fun _ _ _ _ p => p) ?_ ?_
   ·intro h18 hx30
    refine Needs_nil ?_
    refine Stp_yld (Y_move rfl) rfl ?_
    exact rfl
   refine LP_op 7 (fun _ vv => .pointer (some (elemAddr s02 (((i : Int)).toNat * 6))) = vv) [(5, 59), (6, 60)] rfl rfl (by kernel_rfl) (fun _ _ _ _ p => p) ?_ ?_
   ·intro h19 hx31
    rintro _ rfl
    rintro _ rfl
    refine Needs_nil ?_
    refine Stp_yld (Y_idxr Tryd.underlying32 (show _ = some 6 by kernel_rfl) rfl rfl rfl (hr04.ext ((((hxB.trans hx7).trans hn8.ext).then' hp10.only (by simp) (Nat.le_trans hxB.size hx7.size)).trans hx31)) (by omega) (by omega)) rfl ?_
    exact rfl
   refine LP_op 8 (fun _ vv => .pointer (some (elemAddr s02 (((i : Int)).toNat * 6 + 2))) = vv) [(7, 61)] rfl rfl (by kernel_rfl) (fun _ _ _ _ p => p) ?_ ?_
   ·intro h20 hx32
    rintro _ rfl
    refine Needs_nil ?_
    refine Stp_yld (Y_fldr (k := ((i : Int)).toNat) (off := 2) (by kernel_rfl) rfl (hr04.ext ((((hxB.trans hx7).trans hn8.ext).then' hp10.only (by simp) (Nat.le_trans hxB.size hx7.size)).trans hx32)) (by omega)) rfl ?_
    exact rfl
   refine LP_op 9 (fun _ vv => .int .i64 ((at_nod L03 ((i : Int)).toNat).mode) = vv) [(8, 62)] rfl rfl (by kernel_rfl) (fun _ _ _ _ p => p) ?_ ?_
   ·intro h21 hx33
    rintro _ rfl
    refine Needs_nil ?_
    refine Stp_yld (Y_ldr1 (off := 2) (k := ((i : Int)).toNat) (u := .int .i64 ((at_nod L03 ((i : Int)).toNat).mode)) Tryd.underlying3 rfl rfl rfl (hr04.ext ((((hxB.trans hx7).trans hn8.ext).then' hp10.only (by simp) (Nat.le_trans hxB.size hx7.size)).trans hx33)) (by omega) rfl) rfl ?_
    exact rfl
   refine LP_op 10 (fun _ vv => s02 = vv) [] rfl rfl (by kernel_rfl) (fun _ _ _ _ p => p) ?_ ?_
   ·intro h22 hx34
    refine Needs_nil ?_
    refine Stp_yld (Y_move rfl) rfl ?_
    exact rfl
   refine LP_op 11 (fun _ vv => .int .i64 ((lst L03 i L03.length : Int)) = vv) [] rfl rfl (by kernel_rfl) (fun _ _ _ _ p => p) ?_ ?_
   ·intro h23 hx35
    refine Needs_nil ?_
    refine Stp_yld (Y_move rfl) rfl ?_
    exact rfl
   refine LP_op 12 (fun _ vv => .pointer (some (elemAddr s02 (((lst L03 i L03.length : Int)).toNat * 6))) = vv) [(10, 64), (11, 65)] rfl rfl (by kernel_rfl) (fun _ _ _ _ p => p) ?_ ?_
   ·intro h24 hx36
    rintro _ rfl
    rintro _ rfl
    refine Needs_nil ?_
    refine Stp_yld (Y_idxr Tryd.underlying32 (show _ = some 6 by kernel_rfl) rfl rfl rfl (hr04.ext ((((hxB.trans hx7).trans hn8.ext).then' hp10.only (by simp) (Nat.le_trans hxB.size hx7.size)).trans hx36)) (by omega) (by omega)) rfl ?_
    exact rfl
   refine LP_op 13 (fun _ vv => .pointer (some (elemAddr s02 (((lst L03 i L03.length : Int)).toNat * 6 + 1))) = vv) [(12, 66)] rfl rfl (by kernel_rfl) (fun _ _ _ _ p => p) ?_ ?_
   ·intro h25 hx37
    rintro _ rfl
    refine Needs_nil ?_
    refine Stp_yld (Y_fldr (k := ((lst L03 i L03.length : Int)).toNat) (off := 1) (by kernel_rfl) rfl (hr04.ext ((((hxB.trans hx7).trans hn8.ext).then' hp10.only (by simp) (Nat.le_trans hxB.size hx7.size)).trans hx37)) (by omega)) rfl ?_
    exact rfl
   refine LP_op 14 (fun _ vv => str ((at_nod L03 ((lst L03 i L03.length : Int)).toNat).path) = vv) [(13, 67)] rfl rfl (by kernel_rfl) (fun _ _ _ _ p => p) ?_ ?_
   ·intro h26 hx38
    rintro _ rfl
    refine Needs_nil ?_
    refine Stp_yld (Y_ldr1 (off := 1) (k := ((lst L03 i L03.length : Int)).toNat) (u := str ((at_nod L03 ((lst L03 i L03.length : Int)).toNat).path)) Tryd.underlying9 rfl rfl rfl (hr04.ext ((((hxB.trans hx7).trans hn8.ext).then' hp10.only (by simp) (Nat.le_trans hxB.size hx7.size)).trans hx38)) (by omega) rfl) rfl ?_
    exact rfl
   refine LP_op 15 (fun _ vv => .agg #[.int .i64 3, str ((at_nod L03 ((i : Int)).toNat).path), .int .i64 ((at_nod L03 ((i : Int)).toNat).mode), str ((at_nod L03 ((lst L03 i L03.length : Int)).toNat).path), .int .i64 0] = vv) [(4, 58), (14, 68), (9, 63)] rfl rfl (by kernel_rfl) (fun _ _ _ _ p => p) ?_ ?_
   ·intro h27 hx39
    rintro _ rfl
    rintro _ rfl
    rintro _ rfl
    refine Needs_nil ?_
    refine Stp_yld (Y_build (v := .agg #[.int .i64 3, str ((at_nod L03 ((i : Int)).toNat).path), .int .i64 ((at_nod L03 ((i : Int)).toNat).mode), str ((at_nod L03 ((lst L03 i L03.length : Int)).toNat).path), .int .i64 0]) (pv := [(0, .int .i64 3), (1, str ((at_nod L03 ((i : Int)).toNat).path)), (2, .int .i64 ((at_nod L03 ((i : Int)).toNat).mode)), (3, str ((at_nod L03 ((lst L03 i L03.length : Int)).toNat).path))]) (evp (is := [0, 1, 2, 3]) (os := [.const (.int .i64 3), .tmp 58, .tmp 63, .tmp 68]) (vs := [.int .i64 3, str ((at_nod L03 ((i : Int)).toNat).path), .int .i64 ((at_nod L03 ((i : Int)).toNat).mode), str ((at_nod L03 ((lst L03 i L03.length : Int)).toNat).path)]) rfl rfl) (fun _ => by kernel_rfl)) rfl ?_
    exact rfl
   refine LP_op 16 (fun _ vv => .pointer (some ⟨h4.size, 0 + 0, none⟩) = vv) [] rfl rfl (by kernel_rfl) (fun _ _ _ _ p => p) ?_ ?_
   ·intro h28 hx40
    refine Needs_nil ?_
    refine Stp_yld (Y_fieldAddr (off := 0) (by kernel_rfl) rfl rfl) rfl ?_
    exact rfl
   refine LP_tail rfl 17 [(15, 69), (16, 70)] rfl rfl (by kernel_rfl) (by kernel_rfl) (by kernel_rfl) rfl ?_
   intro h29 hx41
   rintro _ rfl
   rintro _ rfl
   refine Needs_nil ?_
   refine L_dos (D_store (us := [.int .i64 3, str ((at_nod L03 ((i : Int)).toNat).path), .int .i64 ((at_nod L03 ((i : Int)).toNat).mode), str ((at_nod L03 ((lst L03 i L03.length : Int)).toNat).path), .int .i64 0]) (show _ = some 5 by kernel_rfl) rfl rfl rfl (by simp [Value.oneCell']) (hk11.ext hx41) (by simp)) rfl rfl ?_
   rintro h30 hp42
   have hk43 : Blk h30 h4.size [.int .i64 3, str ((at_nod L03 ((i : Int)).toNat).path), .int .i64 ((at_nod L03 ((i : Int)).toNat).mode), str ((at_nod L03 ((lst L03 i L03.length : Int)).toNat).path), .int .i64 0, .slice none 0 0] := hp42.blk
   refine Nx ?_
   refine W_sub _ (tk7 9 0 4 3 2 7 8) ?_
   have hn1 : Bytes h30 (.slice none 0 0) [] := Bytes.nil _
   have hn2 : ∀ b, blk2 (.slice none 0 0) = some b → b ∉ (blockOf vo).toList := fun b hb => by cases hb
   have me7 := ((hx7.trans hn8.ext).then' hp10.only (by simp) hx7.size).trans hx41
   have hkA : ∀ x ∈ O, memS.ok h30 x := fun x hx => memS.ext (hkB x hx) (me7.then' hp42.only (by simp) hx7.size)
   refine W_region ?_
   refine Mv ?_
   refine Ly (Y_ldbox (us := [.int .i64 3, str ((at_nod L03 ((i : Int)).toNat).path), .int .i64 ((at_nod L03 ((i : Int)).toNat).mode), str ((at_nod L03 ((lst L03 i L03.length : Int)).toNat).path), .int .i64 0, .slice none 0 0]) Tryd.underlying30 rfl (show _ = some 6 by kernel_rfl) rfl hk43 rfl) ?_
   refine L_mks (M_litr (S := memS) (l := ([⟨(3 : Int), (at_nod L03 ((i : Int)).toNat).path, (at_nod L03 ((i : Int)).toNat).mode, (at_nod L03 ((lst L03 i L03.length : Int)).toNat).path, (0 : Int), .slice none 0 0, ([] : List UInt8)⟩] : List Mem)) (cells := [.int .i64 3, str ((at_nod L03 ((i : Int)).toNat).path), .int .i64 ((at_nod L03 ((i : Int)).toNat).mode), str ((at_nod L03 ((lst L03 i L03.length : Int)).toNat).path), .int .i64 0, .slice none 0 0]) (pv := [(0, .agg #[.int .i64 3, str ((at_nod L03 ((i : Int)).toNat).path), .int .i64 ((at_nod L03 ((i : Int)).toNat).mode), str ((at_nod L03 ((lst L03 i L03.length : Int)).toNat).path), .int .i64 0, .slice none 0 0])]) (E := 30) (evp (is := [0]) (os := [.tmp 72]) (vs := [.agg #[.int .i64 3, str ((at_nod L03 ((i : Int)).toNat).path), .int .i64 ((at_nod L03 ((i : Int)).toNat).mode), str ((at_nod L03 ((lst L03 i L03.length : Int)).toNat).path), .int .i64 0, .slice none 0 0]]) rfl rfl) rfl rfl (fun _ => by kernel_rfl) (by simp only [List.mem_cons, List.not_mem_nil, or_false, forall_eq_or_imp, forall_eq]; exact (Bytes.nil _))) rfl rfl rfl ?_
   rintro v44 h31 ⟨ho45, hx46⟩
   have hkD : ∀ x ∈ O, memS.ok h31 x := fun x hx => memS.ext (hkA x hx) hx46
   have hnD := Bytes.ext hn1 hx46
   have me8 := Nat.le_trans (Nat.le_trans hxB.size hx7.size) hn8.ext.size
   have me9 := Nat.le_trans (Nat.le_trans (Nat.le_trans me8 hp10.only.size) hx41.size) hp42.only.size
   refine L_mks (M_apprG (z := 6) (bytes := 80) (z0 := (.agg #[.int .i64 0, str [], .int .i64 0, str [], .int .i64 0, .slice none 0 0])) Tryd.underlying22 (by unfold elemRow; kernel_rfl) rfl rfl (by decide) rfl rfl (hoB.ext ((me7.then' hp42.only (by simp) hx7.size).trans hx46)) ho45.rows (Nat.le_trans me9 hx46.size) (by first | (simp; omega) | (simp; done) | omega) (fun h' y hge x hx => (List.mem_append.1 hx).elim (fun q => okR (hkD x q) y (hpB x q)) (fun q => by rw [List.mem_singleton.1 q]; exact okRb hnD y hn2))) rfl rfl rfl ?_
   rintro v47 h32 ⟨ha48, ha48l⟩
   refine Av ?_
   refine L_nil (X_block (X_then ?_))
   refine W_sub _ (tk6 7 0 4 3 2 8) ?_
   refine W_region ?_
   refine Mv ?_
   refine Ly (Y_add rfl rfl (by omega) (by omega)) ?_
   refine Av ?_
   refine L_nil ?_
   refine X_loop ((i + 1, (O ++ ([⟨(3 : Int), (at_nod L03 ((i : Int)).toNat).path, (at_nod L03 ((i : Int)).toNat).mode, (at_nod L03 ((lst L03 i L03.length : Int)).toNat).path, (0 : Int), .slice none 0 0, ([] : List UInt8)⟩] : List Mem)), v47)) (tk6 0 4 3 2 7 8) ?_ ?_
   ·exact ⟨by omega, by simp [hlO], rng_app hTO (by rw [rmem_l (i := i) a (fun q => b (by omega))]; rfl), all_app (P := fun x => memS.ok _ x) (fun x hx => (ha48.own).2 x (List.mem_append_left _ hx)) ((ha48.own).2 _ (by simp)), all_app (P := fun x => ∀ b, blk2 x.dv = some b → b ∉ (blockOf _).toList) (fun x hx => apR ha48l (hkD x hx) (hpB x hx)) (apRb ha48l hnD hn2), ((((me1.trans hx41).then' hp42.only (by simp) (Nat.le_trans hxB.size hx7.size)).trans hx46).then' ha48.only ha48.ge (Nat.le_refl _)), ha48.own⟩
   (try dsimp only)
   omega
  refine Ws ?_
  refine W_sub _ (tk7 9 0 4 3 2 7 8) ?_
  have hn1 : Bytes h6 (.slice none 0 0) [] := Bytes.nil _
  have hn2 : ∀ b, blk2 (.slice none 0 0) = some b → b ∉ (blockOf vo).toList := fun b hb => by cases hb
  have hkA : ∀ x ∈ O, memS.ok h6 x := fun x hx => memS.ext (hkB x hx) ((hx7.trans hn8.ext).then' hp10.only (by simp) hx7.size)
  refine W_region ?_
  refine Mv ?_
  refine Ly (Y_ldbox (us := [.int .i64 ((at_nod L03 ((i : Int)).toNat).kind), str ((at_nod L03 ((i : Int)).toNat).path), .int .i64 ((at_nod L03 ((i : Int)).toNat).mode), str ((at_nod L03 ((i : Int)).toNat).target), .int .i64 (nsize (at_nod L03 ((i : Int)).toNat)), .slice none 0 0]) Tryd.underlying30 rfl (show _ = some 6 by kernel_rfl) rfl hk11 rfl) ?_
  refine L_mks (M_litr (S := memS) (l := ([⟨(at_nod L03 ((i : Int)).toNat).kind, (at_nod L03 ((i : Int)).toNat).path, (at_nod L03 ((i : Int)).toNat).mode, (at_nod L03 ((i : Int)).toNat).target, nsize (at_nod L03 ((i : Int)).toNat), .slice none 0 0, ([] : List UInt8)⟩] : List Mem)) (cells := [.int .i64 ((at_nod L03 ((i : Int)).toNat).kind), str ((at_nod L03 ((i : Int)).toNat).path), .int .i64 ((at_nod L03 ((i : Int)).toNat).mode), str ((at_nod L03 ((i : Int)).toNat).target), .int .i64 (nsize (at_nod L03 ((i : Int)).toNat)), .slice none 0 0]) (pv := [(0, .agg #[.int .i64 ((at_nod L03 ((i : Int)).toNat).kind), str ((at_nod L03 ((i : Int)).toNat).path), .int .i64 ((at_nod L03 ((i : Int)).toNat).mode), str ((at_nod L03 ((i : Int)).toNat).target), .int .i64 (nsize (at_nod L03 ((i : Int)).toNat)), .slice none 0 0])]) (E := 30) (evp (is := [0]) (os := [.tmp 72]) (vs := [.agg #[.int .i64 ((at_nod L03 ((i : Int)).toNat).kind), str ((at_nod L03 ((i : Int)).toNat).path), .int .i64 ((at_nod L03 ((i : Int)).toNat).mode), str ((at_nod L03 ((i : Int)).toNat).target), .int .i64 (nsize (at_nod L03 ((i : Int)).toNat)), .slice none 0 0]]) rfl rfl) rfl rfl (fun _ => by kernel_rfl) (by simp only [List.mem_cons, List.not_mem_nil, or_false, forall_eq_or_imp, forall_eq]; exact (Bytes.nil _))) rfl rfl rfl ?_
  rintro v49 h33 ⟨ho50, hx51⟩
  have me10 := ((hx7.trans hn8.ext).then' hp10.only (by simp) hx7.size).trans hx51
  have hkD : ∀ x ∈ O, memS.ok h33 x := fun x hx => memS.ext (hkA x hx) hx51
  have hnD := Bytes.ext hn1 hx51
  have me11 := Nat.le_trans (Nat.le_trans hxB.size hx7.size) hn8.ext.size
  refine L_mks (M_apprG (z := 6) (bytes := 80) (z0 := (.agg #[.int .i64 0, str [], .int .i64 0, str [], .int .i64 0, .slice none 0 0])) Tryd.underlying22 (by unfold elemRow; kernel_rfl) rfl rfl (by decide) rfl rfl (hoB.ext me10) ho50.rows (Nat.le_trans (Nat.le_trans me11 hp10.only.size) hx51.size) (by first | (simp; omega) | (simp; done) | omega) (fun h' y hge x hx => (List.mem_append.1 hx).elim (fun q => okR (hkD x q) y (hpB x q)) (fun q => by rw [List.mem_singleton.1 q]; exact okRb hnD y hn2))) rfl rfl rfl ?_
  rintro v52 h34 ⟨ha53, ha53l⟩
  refine Av ?_
  refine L_nil (X_block (X_then ?_))
  refine W_sub _ (tk6 7 0 4 3 2 8) ?_
  refine W_region ?_
  refine Mv ?_
  refine Ly (Y_add rfl rfl (by omega) (by omega)) ?_
  refine Av ?_
  refine L_nil ?_
  refine X_loop ((i + 1, (O ++ ([⟨(at_nod L03 ((i : Int)).toNat).kind, (at_nod L03 ((i : Int)).toNat).path, (at_nod L03 ((i : Int)).toNat).mode, (at_nod L03 ((i : Int)).toNat).target, nsize (at_nod L03 ((i : Int)).toNat), .slice none 0 0, ([] : List UInt8)⟩] : List Mem)), v52)) (tk6 0 4 3 2 7 8) ?_ ?_
  ·exact ⟨by omega, by simp [hlO], rng_app hTO (by have a' : ¬ (at_nod L03 i).kind = 1 := a; rw [rmem_n (i := i) a]; simp [erm, nsize, a']), all_app (P := fun x => memS.ok _ x) (fun x hx => (ha53.own).2 x (List.mem_append_left _ hx)) ((ha53.own).2 _ (by simp)), all_app (P := fun x => ∀ b, blk2 x.dv = some b → b ∉ (blockOf _).toList) (fun x hx => apR ha53l (hkD x hx) (hpB x hx)) (apRb ha53l hnD hn2), ((me1.trans hx51).then' ha53.only ha53.ge (Nat.le_refl _)), ha53.own⟩
  (try dsimp only)
  omega
 refine W_exit ?_
 refine X_then_exit (X_then_exit ?_)
 refine X_block_hit ?_
 refine X_then ?_
 refine W_sub _ (tk5 0 4 3 2 7) ?_
 refine Wr ?_
 refine Mv ?_
 refine Mv ?_
 refine Ly (Y_lenr Tryd.underlying32 rfl (hr04.ext hxB)) ?_
 refine Av ?_
 refine Av ?_
 refine Av ?_
 refine Nx ?_
 refine W_sub _ (tk3 4 3 2) ?_
 refine W_ret ?_
 refine X_ret3 rfl rfl rfl rfl ?_
 exact ⟨_, _, by rw [hz, (tok_of hz).res.1, hqC.1], hoB.rows, by rw [← rms_mbs hz hqC, hTO]; congr 1; congr 1; omega, ((hx1.trans hx6).trans hxB)⟩
end Go.Xp
