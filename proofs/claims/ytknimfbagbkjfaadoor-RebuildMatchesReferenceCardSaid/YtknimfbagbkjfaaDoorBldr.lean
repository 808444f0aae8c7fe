/- Layer 15 (rebuild): the reference's Builder. -/
import Derived.Test.YtknimfbagbkjfaaDoorBldj
import Derived.Test.YtknimfbagbkjfaaDoorFitR
set_option linter.unusedSimpArgs false
set_option linter.unusedVariables false
set_option linter.unusedSectionVars false
namespace Go.Xp
open Go.Proofs

/-- The first member of this kind and path. -/
def mff : List Mem → Int → List UInt8 → Nat
  | [], _, _ => 0
  | x :: r, k, q => if x.kind = k ∧ x.path = q then 0 else mff r k q + 1
theorem mem_cons_succ (x : Mem) (r : List Mem) (k : Nat) : at_mem (x :: r) (k + 1) = at_mem r k := by simp [at_mem]
theorem mff_spec : ∀ {M : List Mem} {k : Int} {q : List UInt8}, mff M k q ≤ M.length ∧ (∀ j, j < mff M k q → ¬ ((at_mem M j).kind = k ∧ (at_mem M j).path = q)) ∧ (mff M k q < M.length → (at_mem M (mff M k q)).kind = k ∧ (at_mem M (mff M k q)).path = q)
  | [], k, q => ⟨Nat.le_refl _, fun j h => absurd h (Nat.not_lt_zero _), fun h => absurd h (Nat.not_lt_zero _)⟩
  | x :: r, k, q => by
    obtain ⟨h1, h2, h3⟩ := @mff_spec r k q
    unfold mff
    by_cases h : x.kind = k ∧ x.path = q
    · rw [if_pos h]; exact ⟨Nat.zero_le _, fun j hj => absurd hj (Nat.not_lt_zero _), fun _ => h⟩
    · rw [if_neg h]
      refine ⟨by simp only [List.length_cons]; omega, fun j hj => ?_, fun hl => ?_⟩
      · cases j with
        | zero => exact h
        | succ j => rw [mem_cons_succ]; exact h2 j (by omega)
      · rw [mem_cons_succ]; exact h3 (by simpa using hl)
theorem mff_eq {M : List Mem} {k : Int} {q : List UInt8} {i : Nat} (hi : i < M.length) (h0 : ∀ j, j < i → ¬ ((at_mem M j).kind = k ∧ (at_mem M j).path = q)) (h : (at_mem M i).kind = k ∧ (at_mem M i).path = q) : mff M k q = i := by
  obtain ⟨h1, h2, h3⟩ := @mff_spec M k q
  rcases Nat.lt_trichotomy (mff M k q) i with e | e | e
  · exact absurd (h3 (by omega)) (h0 _ e)
  · exact e
  · exact absurd h (h2 i e)
def mfind (M : List Mem) (k : Int) (q : List UInt8) : Int := if mff M k q < M.length then (mff M k q : Int) else -1
theorem mfind_y {M : List Mem} {k : Int} {q : List UInt8} {i : Nat} (hi : i < M.length) (h0 : ∀ j, j < i → ¬ ((at_mem M j).kind = k ∧ (at_mem M j).path = q)) (h : (at_mem M i).kind = k ∧ (at_mem M i).path = q) : mfind M k q = i := by
  unfold mfind; rw [mff_eq hi h0 h, if_pos hi]
theorem mfind_n {M : List Mem} {k : Int} {q : List UInt8} (h0 : ∀ j, j < M.length → ¬ ((at_mem M j).kind = k ∧ (at_mem M j).path = q)) : mfind M k q = -1 := by
  obtain ⟨h1, h2, h3⟩ := @mff_spec M k q
  unfold mfind
  rw [if_neg (fun h => h0 _ h (h3 h))]
theorem mfind_lt {M : List Mem} {k : Int} {q : List UInt8} : mfind M k q < M.length := by unfold mfind; split <;> omega
set_option maxRecDepth 100000 in
theorem ref15_find (h : Heap) (c : Nat) (cv : Value) (M : List Mem) (hM : Rows memS h cv M) (hc : Blk h c [cv]) (kd : Int) (q : List UInt8) (hm : M.length ≤ 1000000000) : Cal Tryd.prog 40 #[.pointer (some ⟨c, 0, none⟩), .int .i64 (kd), str q] h (fun v h' => v = .int .i64 (mfind M kd q) ∧ h' = h) := by
 refine Cal_enter (args := [.pointer (some ⟨c, 0, none⟩), .int .i64 (kd), str q]) Tryd.func40 rfl rfl rfl (fun σ => ?_)
 refine Wr ?_
 refine Av ?_
 refine L_nil (X_then (W_seq (W_seq (W_region ?_))))
 refine Av ?_
 refine L_nil (X_then (W_block ?_))
 refine W_loop (S := Nat) (fun i => [(0, .pointer (some ⟨c, 0, none⟩)), (1, .int .i64 (kd)), (2, str q), (7, .int .i64 ((i : Int)))]) (fun i h' => (i ≤ M.length ∧ ∀ j, j < i → ¬ ((at_mem M j).kind = kd ∧ (at_mem M j).path = q)) ∧ h' = h) (fun i => M.length - i) 0 (tk4 0 1 2 7) ?_ ?_
 ·exact ⟨⟨Nat.zero_le _, fun j hj => absurd hj (Nat.not_lt_zero _)⟩, rfl⟩
 rintro i h ⟨⟨hi, h0⟩, rfl⟩
 show W _ _ _ _ _ [(0, .pointer (some ⟨c, 0, none⟩)), (1, .int .i64 (kd)), (2, str q), (7, .int .i64 ((i : Int)))] _
 refine W_seq (W_seq (W_region ?_))
 refine Mv ?_
 refine Mv ?_
 refine Ly (Y_nilCheck rfl) ?_
 refine Ly (Y_fieldAddr (off := 0) (by kernel_rfl) rfl rfl) ?_
 refine Ly (Y_ldblk Tryd.underlying22 rfl rfl hc rfl) ?_
 refine Ly (Y_lenr Tryd.underlying22 rfl hM) ?_
 refine Ly (Y_lss rfl rfl) ?_
 refine Nx ?_
 refine W_sub _ (tk5 14 0 1 2 7) ?_
 refine W_splitd rfl (fun c9 => ?_) (fun c9 => ?_)
 ·refine Ws ?_
  refine W_sub _ (tk4 0 1 2 7) ?_
  refine W_seq (W_block (W_seq (W_region ?_)))
  refine Mv ?_
  refine Ly (Y_nilCheck rfl) ?_
  refine Ly (Y_fieldAddr (off := 0) (by kernel_rfl) rfl rfl) ?_
  refine Ly (Y_ldblk Tryd.underlying22 rfl rfl hc rfl) ?_
  refine Mv ?_
  refine Ly (Y_idxr Tryd.underlying22 (show _ = some 6 by kernel_rfl) rfl rfl rfl hM (by omega) (by omega)) ?_
  refine Ly (Y_fldr (k := ((i : Int)).toNat) (off := 0) (by kernel_rfl) rfl hM (by omega)) ?_
  refine Ly (Y_fldr (k := ((i : Int)).toNat) (off := 0) (by kernel_rfl) rfl hM (by omega)) ?_
  refine Ly (Y_ldr1 (off := 0) (k := ((i : Int)).toNat) (u := .int .i64 ((at_mem M ((i : Int)).toNat).kind)) Tryd.underlying3 rfl rfl rfl hM (by omega) rfl) ?_
  refine Mv ?_
  refine Ly (Y_eql rfl rfl) ?_
  refine Mv ?_
  refine L_splitd (d := 28) rfl (fun k9 => ?_) (fun k9 => ?_)
  ·refine Ly (Y_move rfl) ?_
   refine Ly (Y_nilCheck rfl) ?_
   refine Ly (Y_fieldAddr (off := 0) (by kernel_rfl) rfl rfl) ?_
   refine Ly (Y_ldblk Tryd.underlying22 rfl rfl hc rfl) ?_
   refine Mv ?_
   refine Ly (Y_idxr Tryd.underlying22 (show _ = some 6 by kernel_rfl) rfl rfl rfl hM (by omega) (by omega)) ?_
   refine Ly (Y_fldr (k := ((i : Int)).toNat) (off := 0) (by kernel_rfl) rfl hM (by omega)) ?_
   refine Ly (Y_fldr (k := ((i : Int)).toNat) (off := 1) (by kernel_rfl) rfl hM (by omega)) ?_
   refine Ly (Y_ldr1 (off := 1) (k := ((i : Int)).toNat) (u := str ((at_mem M ((i : Int)).toNat).path)) Tryd.underlying9 rfl rfl rfl hM (by omega) rfl) ?_
   refine Mv ?_
   refine Ly (Y_seql rfl rfl) ?_
   refine Ly (Y_pick_t rfl rfl) ?_
   refine Nx ?_
   refine W_sub _ (tk5 40 0 1 2 7) ?_
   refine W_splitd rfl (fun p9 => ?_) (fun p9 => ?_)
   ·refine Wr ?_
    refine Mv ?_
    refine Av ?_
    refine Nx ?_
    refine W_sub _ (tk5 6 0 1 2 7) ?_
    refine W_ret (X_block_ret (X_then_ret (X_then_ret (X_block_ret (X_then_ret ?_)))))
    refine X_ret1 rfl rfl ?_
    exact ⟨by rw [mfind_y (i := i) (by omega) h0 ⟨k9, p9⟩], rfl⟩
   refine W_skip (X_block (X_then ?_))
   refine W_sub _ (tk4 0 1 2 7) ?_
   refine W_region ?_
   refine Mv ?_
   refine Ly (Y_add rfl rfl (by omega) (by omega)) ?_
   refine Av ?_
   refine L_nil ?_
   refine X_loop (i + 1) (tk4 0 1 2 7) ?_ ?_
   ·exact ⟨⟨by omega, step_ne h0 (fun q9 => p9 q9.2)⟩, rfl⟩
   (try dsimp only)
   omega
  refine Skp ?_
  refine Skp ?_
  refine Skp ?_
  refine Skp ?_
  refine Skp ?_
  refine Skp ?_
  refine Skp ?_
  refine Skp ?_
  refine Skp ?_
  refine Skp ?_
  refine Skp ?_
  refine Ly (Y_pick_f rfl rfl) ?_
  refine Nx ?_
  refine W_sub _ (tk5 40 0 1 2 7) ?_
  refine W_false rfl ?_
  refine W_skip (X_block (X_then ?_))
  refine W_sub _ (tk4 0 1 2 7) ?_
  refine W_region ?_
  refine Mv ?_
  refine Ly (Y_add rfl rfl (by omega) (by omega)) ?_
  refine Av ?_
  refine L_nil ?_
  refine X_loop (i + 1) (tk4 0 1 2 7) ?_ ?_
  ·exact ⟨⟨by omega, step_ne h0 (fun q9 => k9 q9.1)⟩, rfl⟩
  (try dsimp only)
  omega
 refine W_exit ?_
 refine X_then_exit (X_then_exit ?_)
 refine X_block_hit ?_
 refine X_then ?_
 refine W_sub _ sN ?_
 refine Wr ?_
 refine Av ?_
 refine L_nil (X_then (W_ret ?_))
 refine X_ret1 rfl rfl ?_
 exact ⟨by rw [mfind_n (fun j hj => h0 j (by omega))], rfl⟩
/-- What the reference's Check says. -/
def rchk (M : List Mem) (k : Int) (p : List UInt8) (m : Int) (tg : List UInt8) (z : Int) : Int :=
  if ¬ fcheck k p m tg z = 0 then fcheck k p m tg z else if 0 < M.length ∧ 0 ≤ pcmp (at_mem M (M.length - 1)).path p then 12 else if ¬ pparent p = [] ∧ mfind M 0 (pparent p) < 0 then 13
  else if k = 3 ∧ (mfind M 1 tg < 0 ∨ ¬ (at_mem M (mfind M 1 tg).toNat).mode = m) then 15 else 0
section
variable {M : List Mem} {k m z : Int} {p tg : List UInt8}
theorem rchk1 (e : ¬ fcheck k p m tg z = 0) : rchk M k p m tg z = fcheck k p m tg z := if_pos e
theorem rchk12 (e : ¬ ¬ fcheck k p m tg z = 0) (n : 0 < (M.length : Int)) (w : 0 ≤ pcmp (at_mem M ((M.length : Int) - 1).toNat).path p) : rchk M k p m tg z = 12 := by
  rw [show ((M.length : Int) - 1).toNat = M.length - 1 by omega] at w
  unfold rchk; rw [if_neg e, if_pos ⟨by omega, w⟩]
theorem rchkq {n : ¬ 0 < (M.length : Int) ∨ ¬ 0 ≤ pcmp (at_mem M ((M.length : Int) - 1).toNat).path p} : ¬ (0 < M.length ∧ 0 ≤ pcmp (at_mem M (M.length - 1)).path p) := fun q => by
  rcases n with n | n
  · exact n (by omega)
  · rw [show ((M.length : Int) - 1).toNat = M.length - 1 by omega] at n; exact n q.2
theorem rchk13 (n : ¬ 0 < (M.length : Int) ∨ ¬ 0 ≤ pcmp (at_mem M ((M.length : Int) - 1).toNat).path p) (e : ¬ ¬ fcheck k p m tg z = 0) (d : ¬ pparent p = [] ∧ mfind M 0 (pparent p) < 0) : rchk M k p m tg z = 13 := by
  unfold rchk; rw [if_neg e, if_neg (rchkq (n := n)), if_pos d]
theorem rchk15 (n : ¬ 0 < (M.length : Int) ∨ ¬ 0 ≤ pcmp (at_mem M ((M.length : Int) - 1).toNat).path p) (e : ¬ ¬ fcheck k p m tg z = 0) (d : ¬ (¬ pparent p = [] ∧ mfind M 0 (pparent p) < 0)) (k3 : k = 3) (o : mfind M 1 tg < 0 ∨ ¬ (at_mem M (mfind M 1 tg).toNat).mode = m) : rchk M k p m tg z = 15 := by
  unfold rchk; rw [if_neg e, if_neg (rchkq (n := n)), if_neg d, if_pos ⟨k3, o⟩]
theorem rchk0 (n : ¬ 0 < (M.length : Int) ∨ ¬ 0 ≤ pcmp (at_mem M ((M.length : Int) - 1).toNat).path p) (e : ¬ ¬ fcheck k p m tg z = 0) (d : ¬ (¬ pparent p = [] ∧ mfind M 0 (pparent p) < 0)) (o : ¬ (k = 3 ∧ (mfind M 1 tg < 0 ∨ ¬ (at_mem M (mfind M 1 tg).toNat).mode = m))) : rchk M k p m tg z = 0 := by
  unfold rchk; rw [if_neg e, if_neg (rchkq (n := n)), if_neg d, if_neg o]
end
set_option maxRecDepth 100000 in
theorem ref15_Check (h : Heap) (hK : GlbK h) (hE : GlbE h) (c : Nat) (cv : Value) (M : List Mem) (hM : Rows memS h cv M) (hc : Blk h c [cv]) (k : Int) (p : List UInt8) (m : Int) (tg : List UInt8) (z : Int) (hm : M.length ≤ 1000000000) (hs : ∀ x ∈ M, x.path.length ≤ 100000000000) (hp : p.length ≤ 140737488355328) (ht : tg.length ≤ 140737488355328) : Cal Tryd.prog 18 #[.pointer (some ⟨c, 0, none⟩), .agg #[.int .i64 (k), str p, .int .i64 (m), str tg, .int .i64 (z)]] h (fun v h' => v = .int .i64 (rchk M k p m tg z) ∧ Ext h h') := by
 refine Cal_enter (args := [.pointer (some ⟨c, 0, none⟩), .agg #[.int .i64 (k), str p, .int .i64 (m), str tg, .int .i64 (z)]]) Tryd.func18 rfl rfl rfl (fun σ => ?_)
 refine Wr ?_
 refine L_mks (M_box rfl) rfl rfl rfl ?_
 rintro _ h1 ⟨rfl, hn1⟩
 have hk2 : Blk h1 h.size [.int .i64 (k), str p, .int .i64 (m), str tg, .int .i64 (z)] := hn1.blk
 refine Av ?_
 refine Nx ?_
 refine W_sub _ (tk3 4 3 0) ?_
 refine Wr ?_
 refine Ly (Y_ldbox (us := [.int .i64 (k), str p, .int .i64 (m), str tg, .int .i64 (z)]) Tryd.underlying27 rfl (show _ = some 5 by kernel_rfl) rfl hk2 rfl) ?_
 refine L_call (E_call (by kernel_rfl) rfl) (ref10_Check _ k p m tg z (by first | omega | rfl | (simp <;> omega)) (by first | omega | rfl | (simp <;> omega))) rfl rfl rfl ?_
 rintro _ h2 ⟨rfl, hx3⟩
 refine Av ?_
 refine Nx ?_
 refine W_sub _ (tk4 5 4 3 0) ?_
 refine W_seq (W_seq (W_region ?_))
 refine Mv ?_
 refine Ly (Y_neq rfl rfl) ?_
 refine Nx ?_
 refine W_sub _ (tk5 11 5 4 3 0) ?_
 refine W_splitd rfl (fun e => ?_) (fun e => ?_)
 ·refine Wr ?_
  refine Mv ?_
  refine Av ?_
  refine Nx ?_
  refine W_sub _ (tk3 4 3 0) ?_
  refine W_ret (X_then_ret ?_)
  refine X_ret1 rfl rfl ?_
  exact ⟨congrArg (Value.int IntKind.i64) (rchk1 e).symm, (hn1.ext.trans hx3)⟩
 refine Ws ?_
 refine W_sub _ (tk3 4 3 0) ?_
 refine W_seq (W_seq ?_)
 refine W_quiet (fun h' => h' = h2) (by kernel_rfl) (by kernel_rfl) rfl ?_
 refine LQ_yld (fun h_ hI_ => by subst hI_; exact Y_move rfl) rfl rfl rfl ?_
 refine LQ_yld (fun h_ hI_ => by subst hI_; exact Y_nilCheck rfl) rfl rfl rfl ?_
 refine LQ_yld (fun h_ hI_ => by subst hI_; exact Y_fieldAddr (off := 0) (by kernel_rfl) rfl rfl) rfl rfl rfl ?_
 refine LQ_yld (fun h_ hI_ => by subst hI_; exact Y_ldblk Tryd.underlying22 rfl rfl (hc.ext (hn1.ext.trans hx3)) rfl) rfl rfl rfl ?_
 refine LQ_yld (fun h_ hI_ => by subst hI_; exact Y_lenr Tryd.underlying22 rfl (hM.ext (hn1.ext.trans hx3))) rfl rfl rfl ?_
 refine LQ_yld (fun h_ hI_ => by subst hI_; exact Y_gtr rfl rfl) rfl rfl rfl ?_
 refine LQ_yld (fun h_ hI_ => by subst hI_; exact Y_move rfl) rfl rfl rfl ?_
 refine LQ_splitd (d := 19) rfl (fun n => ?_) (fun n => ?_)
 ·refine LQ_yld (fun h_ hI_ => by subst hI_; exact Y_move rfl) rfl rfl rfl ?_
  refine LQ_yld (fun h_ hI_ => by subst hI_; exact Y_nilCheck rfl) rfl rfl rfl ?_
  refine LQ_yld (fun h_ hI_ => by subst hI_; exact Y_fieldAddr (off := 0) (by kernel_rfl) rfl rfl) rfl rfl rfl ?_
  refine LQ_yld (fun h_ hI_ => by subst hI_; exact Y_ldblk Tryd.underlying22 rfl rfl (hc.ext (hn1.ext.trans hx3)) rfl) rfl rfl rfl ?_
  refine LQ_yld (fun h_ hI_ => by subst hI_; exact Y_move rfl) rfl rfl rfl ?_
  refine LQ_yld (fun h_ hI_ => by subst hI_; exact Y_nilCheck rfl) rfl rfl rfl ?_
  refine LQ_yld (fun h_ hI_ => by subst hI_; exact Y_fieldAddr (off := 0) (by kernel_rfl) rfl rfl) rfl rfl rfl ?_
  refine LQ_yld (fun h_ hI_ => by subst hI_; exact Y_ldblk Tryd.underlying22 rfl rfl (hc.ext (hn1.ext.trans hx3)) rfl) rfl rfl rfl ?_
  refine LQ_yld (fun h_ hI_ => by subst hI_; exact Y_lenr Tryd.underlying22 rfl (hM.ext (hn1.ext.trans hx3))) rfl rfl rfl ?_
  refine LQ_yld (fun h_ hI_ => by subst hI_; exact Y_sub rfl rfl (by omega) (by omega)) rfl rfl rfl ?_
  refine LQ_yld (fun h_ hI_ => by subst hI_; exact Y_idxr Tryd.underlying22 (show _ = some 6 by kernel_rfl) rfl rfl rfl (hM.ext (hn1.ext.trans hx3)) (by first | omega | (have := mfind_lt (M := M) (k := 1) (q := tg); omega)) (by first | omega | (have := mfind_lt (M := M) (k := 1) (q := tg); omega))) rfl rfl rfl ?_
  refine LQ_yld (fun h_ hI_ => by subst hI_; exact Y_fldr (k := ((M.length : Int) - 1).toNat) (off := 0) (by kernel_rfl) rfl (hM.ext (hn1.ext.trans hx3)) (by first | omega | (have := mfind_lt (M := M) (k := 1) (q := tg); omega))) rfl rfl rfl ?_
  refine LQ_yld (fun h_ hI_ => by subst hI_; exact Y_fldr (k := ((M.length : Int) - 1).toNat) (off := 1) (by kernel_rfl) rfl (hM.ext (hn1.ext.trans hx3)) (by first | omega | (have := mfind_lt (M := M) (k := 1) (q := tg); omega))) rfl rfl rfl ?_
  refine LQ_yld (fun h_ hI_ => by subst hI_; exact Y_ldr1 (off := 1) (k := ((M.length : Int) - 1).toNat) (u := str ((at_mem M ((M.length : Int) - 1).toNat).path)) Tryd.underlying9 rfl rfl rfl (hM.ext (hn1.ext.trans hx3)) (by first | omega | (have := mfind_lt (M := M) (k := 1) (q := tg); omega)) rfl) rfl rfl rfl ?_
  refine LQ_yld (fun h_ hI_ => by subst hI_; exact Y_fieldAddr (off := 1) (by kernel_rfl) rfl rfl) rfl rfl rfl ?_
  refine LQ_yld (fun h_ hI_ => by subst hI_; exact Y_ldblk Tryd.underlying9 rfl rfl (hk2.ext hx3) rfl) rfl rfl rfl ?_
  refine LQ_call (v := .int .i64 (pcmp ((at_mem M ((M.length : Int) - 1).toNat).path) p)) (fun _ _ => E_call (by kernel_rfl) rfl) (fun h_ hI_ => by subst hI_; exact (ref08_Compare _ ((at_mem M ((M.length : Int) - 1).toNat).path) p (by have := hs _ (bm_mem (l := M) (k := ((M.length : Int) - 1).toNat) (by omega)); omega))) rfl rfl rfl ?_
  refine LQ_yld (fun h_ hI_ => by subst hI_; exact Y_geq rfl rfl) rfl rfl rfl ?_
  refine LQ_yld (fun h_ hI_ => by subst hI_; exact Y_pick_t rfl rfl) rfl rfl rfl ?_
  refine LQ_nil ?_
  rintro h2 rfl
  refine X_then ?_
  refine W_sub _ (tk4 38 4 3 0) ?_
  refine W_splitd rfl (fun w => ?_) (fun w => ?_)
  ·refine Wr ?_
   refine Av ?_
   refine Nx ?_
   refine W_sub _ (tk3 4 3 0) ?_
   refine W_ret (X_then_ret ?_)
   refine X_ret1 rfl rfl ?_
   exact ⟨congrArg (Value.int IntKind.i64) (rchk12 e n w).symm, (hn1.ext.trans hx3)⟩
  refine Ws ?_
  refine W_sub _ (tk3 4 3 0) ?_
  refine Wr ?_
  refine Ly (Y_fieldAddr (off := 1) (by kernel_rfl) rfl rfl) ?_
  refine Ly (Y_ldblk Tryd.underlying9 rfl rfl (hk2.ext hx3) rfl) ?_
  refine L_call (E_call (by kernel_rfl) rfl) (ref08_Parent _ p (by first | omega | rfl | (simp <;> omega))) rfl rfl rfl ?_
  rintro _ h2 ⟨rfl, rfl⟩
  refine Av ?_
  refine Nx ?_
  refine W_sub _ (tk4 6 4 3 0) ?_
  refine W_seq ?_
  refine W_cut (S := Unit) (fun _ => [(49, .bool (decide ((¬ (pparent p) = []) ∧ ((mfind M (0 : Int) (pparent p)) < 0)))), (4, .int .i64 0), (3, .pointer (some ⟨h.size, 0, none⟩)), (0, .pointer (some ⟨c, 0, none⟩))]) (fun _ h' => h' = h2) ?_ ?_
  ·refine W_region ?_
   refine Mv ?_
   refine Ly (Y_sneq rfl rfl) ?_
   refine Mv ?_
   refine L_splitd (d := 44) rfl (fun d0 => ?_) (fun d0 => ?_)
   ·refine Ly (Y_move rfl) ?_
    refine Mv ?_
    refine L_call (E_call (by kernel_rfl) rfl) (ref15_find _ c cv M (hM.ext (hn1.ext.trans hx3)) (hc.ext (hn1.ext.trans hx3)) (0 : Int) (pparent p) (by first | omega | rfl | (simp <;> omega))) rfl rfl rfl ?_
    rintro _ h2 ⟨rfl, rfl⟩
    refine Ly (Y_lss rfl rfl) ?_
    refine Ly (Y_pick_t rfl rfl) ?_
    refine L_nil ?_
    exact X_cut () (sk1 49 (lkb rfl (by first | (simp only [eq_true d0, SB]; done) | (simp only [eq_true d0, SB]; rfl))) (sk1 4 rfl (sk1 3 rfl (tk1 0)))) rfl
   refine Skp ?_
   refine Skp ?_
   refine Skp ?_
   refine Skp ?_
   refine Ly (Y_pick_f rfl rfl) ?_
   refine L_nil ?_
   exact X_cut () (sk1 49 (lkb rfl (by first | (simp only [eq_false d0, SB]; done) | (simp only [eq_false d0, SB]; rfl))) (sk1 4 rfl (sk1 3 rfl (tk1 0)))) rfl
  rintro _ h2 rfl
  show W _ _ _ _ _ [(49, .bool (decide ((¬ (pparent p) = []) ∧ ((mfind M (0 : Int) (pparent p)) < 0)))), (4, .int .i64 0), (3, .pointer (some ⟨h.size, 0, none⟩)), (0, .pointer (some ⟨c, 0, none⟩))] _
  refine W_splitd rfl (fun d => ?_) (fun d => ?_)
  ·refine Wr ?_
   refine Av ?_
   refine Nx ?_
   refine W_sub _ (tk3 4 3 0) ?_
   refine W_ret (X_then_ret ?_)
   refine X_ret1 rfl rfl ?_
   exact ⟨congrArg (Value.int IntKind.i64) (rchk13 (.inr w) e d).symm, (hn1.ext.trans hx3)⟩
  refine Ws ?_
  refine W_sub _ (tk3 4 3 0) ?_
  refine W_seq (W_seq (W_region ?_))
  refine Ly (Y_fieldAddr (off := 0) (by kernel_rfl) rfl rfl) ?_
  refine Ly (Y_ldblk Tryd.underlying3 rfl rfl (hk2.ext hx3) rfl) ?_
  refine Ly (Y_eql rfl rfl) ?_
  refine Nx ?_
  refine W_sub _ (tk4 52 4 3 0) ?_
  refine W_splitd rfl (fun k3 => ?_) (fun k3 => ?_)
  ·refine Wr ?_
   refine Mv ?_
   refine Ly (Y_fieldAddr (off := 3) (by kernel_rfl) rfl rfl) ?_
   refine Ly (Y_ldblk Tryd.underlying9 rfl rfl (hk2.ext hx3) rfl) ?_
   refine L_call (E_call (by kernel_rfl) rfl) (ref15_find _ c cv M (hM.ext (hn1.ext.trans hx3)) (hc.ext (hn1.ext.trans hx3)) (1 : Int) tg (by first | omega | rfl | (simp <;> omega))) rfl rfl rfl ?_
   rintro _ h2 ⟨rfl, rfl⟩
   refine Av ?_
   refine Nx ?_
   refine W_sub _ (tk4 7 4 3 0) ?_
   refine W_seq ?_
   refine W_quiet (fun h' => h' = h2) (by kernel_rfl) (by kernel_rfl) rfl ?_
   refine LQ_yld (fun h_ hI_ => by subst hI_; exact Y_move rfl) rfl rfl rfl ?_
   refine LQ_yld (fun h_ hI_ => by subst hI_; exact Y_lss rfl rfl) rfl rfl rfl ?_
   refine LQ_yld (fun h_ hI_ => by subst hI_; exact Y_move rfl) rfl rfl rfl ?_
   refine LQ_splitd (d := 59) rfl (fun o => ?_) (fun o => ?_)
   ·refine LQ_skip rfl rfl rfl ?_
    refine LQ_skip rfl rfl rfl ?_
    refine LQ_skip rfl rfl rfl ?_
    refine LQ_skip rfl rfl rfl ?_
    refine LQ_skip rfl rfl rfl ?_
    refine LQ_skip rfl rfl rfl ?_
    refine LQ_skip rfl rfl rfl ?_
    refine LQ_skip rfl rfl rfl ?_
    refine LQ_skip rfl rfl rfl ?_
    refine LQ_skip rfl rfl rfl ?_
    refine LQ_skip rfl rfl rfl ?_
    refine LQ_skip rfl rfl rfl ?_
    refine LQ_yld (fun h_ hI_ => by subst hI_; exact Y_pick_t rfl rfl) rfl rfl rfl ?_
    refine LQ_nil ?_
    rintro h2 rfl
    refine X_then ?_
    refine W_sub _ (tk2 72 4) ?_
    refine W_true rfl ?_
    refine Wr ?_
    refine Av ?_
    refine Nx ?_
    refine W_sub _ (tk1 4) ?_
    refine W_ret (X_then_ret ?_)
    refine X_ret1 rfl rfl ?_
    exact ⟨congrArg (Value.int IntKind.i64) (rchk15 (.inr w) e d k3 (.inl o)).symm, (hn1.ext.trans hx3)⟩
   refine LQ_yld (fun h_ hI_ => by subst hI_; exact Y_move rfl) rfl rfl rfl ?_
   refine LQ_yld (fun h_ hI_ => by subst hI_; exact Y_nilCheck rfl) rfl rfl rfl ?_
   refine LQ_yld (fun h_ hI_ => by subst hI_; exact Y_fieldAddr (off := 0) (by kernel_rfl) rfl rfl) rfl rfl rfl ?_
   refine LQ_yld (fun h_ hI_ => by subst hI_; exact Y_ldblk Tryd.underlying22 rfl rfl (hc.ext (hn1.ext.trans hx3)) rfl) rfl rfl rfl ?_
   refine LQ_yld (fun h_ hI_ => by subst hI_; exact Y_move rfl) rfl rfl rfl ?_
   refine LQ_yld (fun h_ hI_ => by subst hI_; exact Y_idxr Tryd.underlying22 (show _ = some 6 by kernel_rfl) rfl rfl rfl (hM.ext (hn1.ext.trans hx3)) (by first | omega | (have := mfind_lt (M := M) (k := 1) (q := tg); omega)) (by first | omega | (have := mfind_lt (M := M) (k := 1) (q := tg); omega))) rfl rfl rfl ?_
   refine LQ_yld (fun h_ hI_ => by subst hI_; exact Y_fldr (k := (mfind M (1 : Int) tg).toNat) (off := 0) (by kernel_rfl) rfl (hM.ext (hn1.ext.trans hx3)) (by first | omega | (have := mfind_lt (M := M) (k := 1) (q := tg); omega))) rfl rfl rfl ?_
   refine LQ_yld (fun h_ hI_ => by subst hI_; exact Y_fldr (k := (mfind M (1 : Int) tg).toNat) (off := 2) (by kernel_rfl) rfl (hM.ext (hn1.ext.trans hx3)) (by first | omega | (have := mfind_lt (M := M) (k := 1) (q := tg); omega))) rfl rfl rfl ?_
   refine LQ_yld (fun h_ hI_ => by subst hI_; exact Y_ldr1 (off := 2) (k := (mfind M (1 : Int) tg).toNat) (u := .int .i64 ((at_mem M (mfind M (1 : Int) tg).toNat).mode)) Tryd.underlying3 rfl rfl rfl (hM.ext (hn1.ext.trans hx3)) (by first | omega | (have := mfind_lt (M := M) (k := 1) (q := tg); omega)) rfl) rfl rfl rfl ?_
   refine LQ_yld (fun h_ hI_ => by subst hI_; exact Y_fieldAddr (off := 2) (by kernel_rfl) rfl rfl) rfl rfl rfl ?_
   refine LQ_yld (fun h_ hI_ => by subst hI_; exact Y_ldblk Tryd.underlying3 rfl rfl (hk2.ext hx3) rfl) rfl rfl rfl ?_
   refine LQ_yld (fun h_ hI_ => by subst hI_; exact Y_neq rfl rfl) rfl rfl rfl ?_
   refine LQ_yld (fun h_ hI_ => by subst hI_; exact Y_pick_f rfl rfl) rfl rfl rfl ?_
   refine LQ_nil ?_
   rintro h2 rfl
   refine X_then ?_
   refine W_sub _ (tk2 72 4) ?_
   refine W_splitd rfl (fun y => ?_) (fun y => ?_)
   ·refine Wr ?_
    refine Av ?_
    refine Nx ?_
    refine W_sub _ (tk1 4) ?_
    refine W_ret (X_then_ret ?_)
    refine X_ret1 rfl rfl ?_
    exact ⟨congrArg (Value.int IntKind.i64) (rchk15 (.inr w) e d k3 (.inr y)).symm, (hn1.ext.trans hx3)⟩
   refine Ws ?_
   refine W_sub _ (tk1 4) ?_
   refine Wr ?_
   refine Av ?_
   refine L_nil (X_then (W_ret ?_))
   refine X_ret1 rfl rfl ?_
   exact ⟨congrArg (Value.int IntKind.i64) (rchk0 (.inr w) e d (fun q => q.2.elim o y)).symm, (hn1.ext.trans hx3)⟩
  refine Ws ?_
  refine W_sub _ (tk1 4) ?_
  refine Wr ?_
  refine Av ?_
  refine L_nil (X_then (W_ret ?_))
  refine X_ret1 rfl rfl ?_
  exact ⟨congrArg (Value.int IntKind.i64) (rchk0 (.inr w) e d (fun q => k3 q.1)).symm, (hn1.ext.trans hx3)⟩
 refine LQ_skip rfl rfl rfl ?_
 refine LQ_skip rfl rfl rfl ?_
 refine LQ_skip rfl rfl rfl ?_
 refine LQ_skip rfl rfl rfl ?_
 refine LQ_skip rfl rfl rfl ?_
 refine LQ_skip rfl rfl rfl ?_
 refine LQ_skip rfl rfl rfl ?_
 refine LQ_skip rfl rfl rfl ?_
 refine LQ_skip rfl rfl rfl ?_
 refine LQ_skip rfl rfl rfl ?_
 refine LQ_skip rfl rfl rfl ?_
 refine LQ_skip rfl rfl rfl ?_
 refine LQ_skip rfl rfl rfl ?_
 refine LQ_skip rfl rfl rfl ?_
 refine LQ_skip rfl rfl rfl ?_
 refine LQ_skip rfl rfl rfl ?_
 refine LQ_skip rfl rfl rfl ?_
 refine LQ_skip rfl rfl rfl ?_
 refine LQ_yld (fun h_ hI_ => by subst hI_; exact Y_pick_f rfl rfl) rfl rfl rfl ?_
 refine LQ_nil ?_
 rintro h2 rfl
 refine X_then ?_
 refine W_sub _ (tk4 38 4 3 0) ?_
 refine W_false rfl ?_
 refine Ws ?_
 refine W_sub _ (tk3 4 3 0) ?_
 refine Wr ?_
 refine Ly (Y_fieldAddr (off := 1) (by kernel_rfl) rfl rfl) ?_
 refine Ly (Y_ldblk Tryd.underlying9 rfl rfl (hk2.ext hx3) rfl) ?_
 refine L_call (E_call (by kernel_rfl) rfl) (ref08_Parent _ p (by first | omega | rfl | (simp <;> omega))) rfl rfl rfl ?_
 rintro _ h2 ⟨rfl, rfl⟩
 refine Av ?_
 refine Nx ?_
 refine W_sub _ (tk4 6 4 3 0) ?_
 refine W_seq ?_
 refine W_cut (S := Unit) (fun _ => [(49, .bool (decide ((¬ (pparent p) = []) ∧ ((mfind M (0 : Int) (pparent p)) < 0)))), (4, .int .i64 0), (3, .pointer (some ⟨h.size, 0, none⟩)), (0, .pointer (some ⟨c, 0, none⟩))]) (fun _ h' => h' = h2) ?_ ?_
 ·refine W_region ?_
  refine Mv ?_
  refine Ly (Y_sneq rfl rfl) ?_
  refine Mv ?_
  refine L_splitd (d := 44) rfl (fun d0 => ?_) (fun d0 => ?_)
  ·refine Ly (Y_move rfl) ?_
   refine Mv ?_
   refine L_call (E_call (by kernel_rfl) rfl) (ref15_find _ c cv M (hM.ext (hn1.ext.trans hx3)) (hc.ext (hn1.ext.trans hx3)) (0 : Int) (pparent p) (by first | omega | rfl | (simp <;> omega))) rfl rfl rfl ?_
   rintro _ h2 ⟨rfl, rfl⟩
   refine Ly (Y_lss rfl rfl) ?_
   refine Ly (Y_pick_t rfl rfl) ?_
   refine L_nil ?_
   exact X_cut () (sk1 49 (lkb rfl (by first | (simp only [eq_true d0, SB]; done) | (simp only [eq_true d0, SB]; rfl))) (sk1 4 rfl (sk1 3 rfl (tk1 0)))) rfl
  refine Skp ?_
  refine Skp ?_
  refine Skp ?_
  refine Skp ?_
  refine Ly (Y_pick_f rfl rfl) ?_
  refine L_nil ?_
  exact X_cut () (sk1 49 (lkb rfl (by first | (simp only [eq_false d0, SB]; done) | (simp only [eq_false d0, SB]; rfl))) (sk1 4 rfl (sk1 3 rfl (tk1 0)))) rfl
 rintro _ h2 rfl
 show W _ _ _ _ _ [(49, .bool (decide ((¬ (pparent p) = []) ∧ ((mfind M (0 : Int) (pparent p)) < 0)))), (4, .int .i64 0), (3, .pointer (some ⟨h.size, 0, none⟩)), (0, .pointer (some ⟨c, 0, none⟩))] _
 refine W_splitd rfl (fun d => ?_) (fun d => ?_)
 ·refine Wr ?_
  refine Av ?_
  refine Nx ?_
  refine W_sub _ (tk3 4 3 0) ?_
  refine W_ret (X_then_ret ?_)
  refine X_ret1 rfl rfl ?_
  exact ⟨congrArg (Value.int IntKind.i64) (rchk13 (.inl n) e d).symm, (hn1.ext.trans hx3)⟩
 refine Ws ?_
 refine W_sub _ (tk3 4 3 0) ?_
 refine W_seq (W_seq (W_region ?_))
 refine Ly (Y_fieldAddr (off := 0) (by kernel_rfl) rfl rfl) ?_
 refine Ly (Y_ldblk Tryd.underlying3 rfl rfl (hk2.ext hx3) rfl) ?_
 refine Ly (Y_eql rfl rfl) ?_
 refine Nx ?_
 refine W_sub _ (tk4 52 4 3 0) ?_
 refine W_splitd rfl (fun k3 => ?_) (fun k3 => ?_)
 ·refine Wr ?_
  refine Mv ?_
  refine Ly (Y_fieldAddr (off := 3) (by kernel_rfl) rfl rfl) ?_
  refine Ly (Y_ldblk Tryd.underlying9 rfl rfl (hk2.ext hx3) rfl) ?_
  refine L_call (E_call (by kernel_rfl) rfl) (ref15_find _ c cv M (hM.ext (hn1.ext.trans hx3)) (hc.ext (hn1.ext.trans hx3)) (1 : Int) tg (by first | omega | rfl | (simp <;> omega))) rfl rfl rfl ?_
  rintro _ h2 ⟨rfl, rfl⟩
  refine Av ?_
  refine Nx ?_
  refine W_sub _ (tk4 7 4 3 0) ?_
  refine W_seq ?_
  refine W_quiet (fun h' => h' = h2) (by kernel_rfl) (by kernel_rfl) rfl ?_
  refine LQ_yld (fun h_ hI_ => by subst hI_; exact Y_move rfl) rfl rfl rfl ?_
  refine LQ_yld (fun h_ hI_ => by subst hI_; exact Y_lss rfl rfl) rfl rfl rfl ?_
  refine LQ_yld (fun h_ hI_ => by subst hI_; exact Y_move rfl) rfl rfl rfl ?_
  refine LQ_splitd (d := 59) rfl (fun o => ?_) (fun o => ?_)
  ·refine LQ_skip rfl rfl rfl ?_
   refine LQ_skip rfl rfl rfl ?_
   refine LQ_skip rfl rfl rfl ?_
   refine LQ_skip rfl rfl rfl ?_
   refine LQ_skip rfl rfl rfl ?_
   refine LQ_skip rfl rfl rfl ?_
   refine LQ_skip rfl rfl rfl ?_
   refine LQ_skip rfl rfl rfl ?_
   refine LQ_skip rfl rfl rfl ?_
   refine LQ_skip rfl rfl rfl ?_
   refine LQ_skip rfl rfl rfl ?_
   refine LQ_skip rfl rfl rfl ?_
   refine LQ_yld (fun h_ hI_ => by subst hI_; exact Y_pick_t rfl rfl) rfl rfl rfl ?_
   refine LQ_nil ?_
   rintro h2 rfl
   refine X_then ?_
   refine W_sub _ (tk2 72 4) ?_
   refine W_true rfl ?_
   refine Wr ?_
   refine Av ?_
   refine Nx ?_
   refine W_sub _ (tk1 4) ?_
   refine W_ret (X_then_ret ?_)
   refine X_ret1 rfl rfl ?_
   exact ⟨congrArg (Value.int IntKind.i64) (rchk15 (.inl n) e d k3 (.inl o)).symm, (hn1.ext.trans hx3)⟩
  refine LQ_yld (fun h_ hI_ => by subst hI_; exact Y_move rfl) rfl rfl rfl ?_
  refine LQ_yld (fun h_ hI_ => by subst hI_; exact Y_nilCheck rfl) rfl rfl rfl ?_
  refine LQ_yld (fun h_ hI_ => by subst hI_; exact Y_fieldAddr (off := 0) (by kernel_rfl) rfl rfl) rfl rfl rfl ?_
  refine LQ_yld (fun h_ hI_ => by subst hI_; exact Y_ldblk Tryd.underlying22 rfl rfl (hc.ext (hn1.ext.trans hx3)) rfl) rfl rfl rfl ?_
  refine LQ_yld (fun h_ hI_ => by subst hI_; exact Y_move rfl) rfl rfl rfl ?_
  refine LQ_yld (fun h_ hI_ => by subst hI_; exact Y_idxr Tryd.underlying22 (show _ = some 6 by kernel_rfl) rfl rfl rfl (hM.ext (hn1.ext.trans hx3)) (by first | omega | (have := mfind_lt (M := M) (k := 1) (q := tg); omega)) (by first | omega | (have := mfind_lt (M := M) (k := 1) (q := tg); omega))) rfl rfl rfl ?_
  refine LQ_yld (fun h_ hI_ => by subst hI_; exact Y_fldr (k := (mfind M (1 : Int) tg).toNat) (off := 0) (by kernel_rfl) rfl (hM.ext (hn1.ext.trans hx3)) (by first | omega | (have := mfind_lt (M := M) (k := 1) (q := tg); omega))) rfl rfl rfl ?_
  refine LQ_yld (fun h_ hI_ => by subst hI_; exact Y_fldr (k := (mfind M (1 : Int) tg).toNat) (off := 2) (by kernel_rfl) rfl (hM.ext (hn1.ext.trans hx3)) (by first | omega | (have := mfind_lt (M := M) (k := 1) (q := tg); omega))) rfl rfl rfl ?_
  refine LQ_yld (fun h_ hI_ => by subst hI_; exact Y_ldr1 (off := 2) (k := (mfind M (1 : Int) tg).toNat) (u := .int .i64 ((at_mem M (mfind M (1 : Int) tg).toNat).mode)) Tryd.underlying3 rfl rfl rfl (hM.ext (hn1.ext.trans hx3)) (by first | omega | (have := mfind_lt (M := M) (k := 1) (q := tg); omega)) rfl) rfl rfl rfl ?_
  refine LQ_yld (fun h_ hI_ => by subst hI_; exact Y_fieldAddr (off := 2) (by kernel_rfl) rfl rfl) rfl rfl rfl ?_
  refine LQ_yld (fun h_ hI_ => by subst hI_; exact Y_ldblk Tryd.underlying3 rfl rfl (hk2.ext hx3) rfl) rfl rfl rfl ?_
  refine LQ_yld (fun h_ hI_ => by subst hI_; exact Y_neq rfl rfl) rfl rfl rfl ?_
  refine LQ_yld (fun h_ hI_ => by subst hI_; exact Y_pick_f rfl rfl) rfl rfl rfl ?_
  refine LQ_nil ?_
  rintro h2 rfl
  refine X_then ?_
  refine W_sub _ (tk2 72 4) ?_
  refine W_splitd rfl (fun y => ?_) (fun y => ?_)
  ·refine Wr ?_
   refine Av ?_
   refine Nx ?_
   refine W_sub _ (tk1 4) ?_
   refine W_ret (X_then_ret ?_)
   refine X_ret1 rfl rfl ?_
   exact ⟨congrArg (Value.int IntKind.i64) (rchk15 (.inl n) e d k3 (.inr y)).symm, (hn1.ext.trans hx3)⟩
  refine Ws ?_
  refine W_sub _ (tk1 4) ?_
  refine Wr ?_
  refine Av ?_
  refine L_nil (X_then (W_ret ?_))
  refine X_ret1 rfl rfl ?_
  exact ⟨congrArg (Value.int IntKind.i64) (rchk0 (.inl n) e d (fun q => q.2.elim o y)).symm, (hn1.ext.trans hx3)⟩
 refine Ws ?_
 refine W_sub _ (tk1 4) ?_
 refine Wr ?_
 refine Av ?_
 refine L_nil (X_then (W_ret ?_))
 refine X_ret1 rfl rfl ?_
 exact ⟨congrArg (Value.int IntKind.i64) (rchk0 (.inl n) e d (fun q => k3 q.1)).symm, (hn1.ext.trans hx3)⟩
def rerq (M : List Mem) (k : Int) (p : List UInt8) (m : Int) (tg : List UInt8) (z : Int) (dat : List UInt8) : Int :=
  if ¬ rchk M k p m tg z = 0 then rchk M k p m tg z else if ¬ (dat.length : Int) = z then 2 else 0
set_option maxRecDepth 100000 in
theorem ref15_Add (h : Heap) (hK : GlbK h) (hE : GlbE h) (c : Nat) (cv : Value) (M : List Mem) (hM : Rows memS h cv M) (hc : Blk h c [cv]) (k : Int) (p : List UInt8) (m : Int) (tg : List UInt8) (z : Int) (dv : Value) (dat : List UInt8) (hd : Bytes h dv dat) (hm : M.length ≤ 1000000000) (hs : ∀ x ∈ M, x.path.length ≤ 100000000000) (hp : p.length ≤ 140737488355328) (ht : tg.length ≤ 140737488355328) (hdl : dat.length ≤ 140737488355328) (hof : ∀ x ∈ M, Off h x.dv x.data) : Cal Tryd.prog 19 #[.pointer (some ⟨c, 0, none⟩), .agg #[.int .i64 (k), str p, .int .i64 (m), str tg, .int .i64 (z), dv]] h (fun v h' => v = .int .i64 (rerq M k p m tg z dat) ∧ ((¬ rerq M k p m tg z dat = 0 ∧ Ext h h') ∨ (rerq M k p m tg z dat = 0 ∧ Only [c] h h' ∧ ∃ u dv', Blk h' c [u] ∧ RowsO memS h' h.size u (M ++ [⟨k, p, m, tg, z, dv', dat⟩]) ∧ Off h' dv' dat))) := by
 refine Cal_enter (args := [.pointer (some ⟨c, 0, none⟩), .agg #[.int .i64 (k), str p, .int .i64 (m), str tg, .int .i64 (z), dv]]) Tryd.func19 rfl rfl rfl (fun σ => ?_)
 refine Wr ?_
 refine L_mks (M_box rfl) rfl rfl rfl ?_
 rintro _ h1 ⟨rfl, hn1⟩
 have hk2 : Blk h1 h.size [.int .i64 (k), str p, .int .i64 (m), str tg, .int .i64 (z), dv] := hn1.blk
 refine Av ?_
 refine Nx ?_
 refine W_sub _ (tk3 4 3 0) ?_
 refine Wr ?_
 refine Mv ?_
 refine Ly (Y_fieldAddr (off := 0) (by kernel_rfl) rfl rfl) ?_
 refine Ly (Y_ldbox (us := [.int .i64 (k), str p, .int .i64 (m), str tg, .int .i64 (z)]) Tryd.underlying27 rfl (show _ = some 5 by kernel_rfl) rfl hk2 rfl) ?_
 refine L_call (E_call (by kernel_rfl) rfl) (ref15_Check _ (hK.ext hn1.ext) (hE.ext hn1.ext) c cv M (hM.ext hn1.ext) (hc.ext hn1.ext) k p m tg z hm hs hp ht) rfl rfl rfl ?_
 rintro _ h2 ⟨rfl, hx3⟩
 refine Av ?_
 refine Nx ?_
 refine W_sub _ (tk4 5 4 3 0) ?_
 refine W_seq (W_seq (W_region ?_))
 refine Mv ?_
 refine Ly (Y_neq rfl rfl) ?_
 refine Nx ?_
 refine W_sub _ (tk5 11 5 4 3 0) ?_
 refine W_splitd rfl (fun e => ?_) (fun e => ?_)
 ·refine Wr ?_
  refine Mv ?_
  refine Av ?_
  refine Nx ?_
  refine W_sub _ (tk3 4 3 0) ?_
  refine W_ret (X_then_ret ?_)
  refine X_ret1 rfl rfl ?_
  exact ⟨by unfold rerq; rw [if_pos e], .inl ⟨by unfold rerq; rw [if_pos e]; exact e, (hn1.ext.trans hx3)⟩⟩
 refine Ws ?_
 refine W_sub _ (tk3 4 3 0) ?_
 refine W_seq (W_seq (W_region ?_))
 refine Ly (Y_fieldAddr (off := 5) (by kernel_rfl) rfl rfl) ?_
 refine Ly (Y_ldblk Tryd.underlying28 rfl rfl (hk2.ext hx3) rfl) ?_
 refine Ly (Y_len Tryd.underlying28 rfl (hd.ext (hn1.ext.trans hx3))) ?_
 refine Ly (Y_fieldAddr (off := 0) (by kernel_rfl) rfl rfl) ?_
 refine Ly (Y_fieldAddr (off := 4) (by kernel_rfl) rfl rfl) ?_
 refine Ly (Y_ldblk Tryd.underlying2 rfl rfl (hk2.ext hx3) rfl) ?_
 refine Ly (Y_neq rfl rfl) ?_
 refine Nx ?_
 refine W_sub _ (tk4 19 4 3 0) ?_
 refine W_splitd rfl (fun sz => ?_) (fun sz => ?_)
 ·refine Wr ?_
  refine Av ?_
  refine Nx ?_
  refine W_sub _ (tk3 4 3 0) ?_
  refine W_ret (X_then_ret ?_)
  refine X_ret1 rfl rfl ?_
  exact ⟨by unfold rerq; rw [if_neg e, if_pos sz], .inl ⟨by unfold rerq; rw [if_neg e, if_pos sz]; decide, (hn1.ext.trans hx3)⟩⟩
 refine Ws ?_
 refine W_sub _ (tk3 4 3 0) ?_
 refine W_seq ?_
 have hc4 := (hk2.ext hx3)
 refine W_held (fun h' => Blk h' h.size [.int .i64 (k), str p, .int .i64 (m), str tg, .int .i64 (z), dv]) 19 rfl (by kernel_rfl) ?_
 refine LH_take (i := 0) rfl (fun h_ hI_ => Y_move rfl) rfl rfl rfl (by kernel_rfl) (by kernel_rfl) (by kernel_rfl) (fun _ _ _ => by rintro ⟨_, _, h_, _⟩; cases h_) hc4 ?_
 refine LH_take (i := 2) rfl (fun h_ hI_ => Y_move rfl) rfl rfl rfl (by kernel_rfl) (by kernel_rfl) (by kernel_rfl) (fun _ _ _ => by rintro ⟨_, _, h_, _⟩; cases h_) hc4 ?_
 refine LH_take (i := 3) rfl (fun h_ hI_ => Y_nilCheck rfl) rfl rfl rfl (by kernel_rfl) (by kernel_rfl) (by kernel_rfl) (fun _ _ _ => by rintro ⟨_, _, h_, _⟩; cases h_) hc4 ?_
 refine LH_take (i := 4) rfl (fun h_ hI_ => Y_fieldAddr (off := 0) (by kernel_rfl) rfl rfl) rfl rfl rfl (by kernel_rfl) (by kernel_rfl) (by kernel_rfl) (fun _ _ _ => by rintro ⟨_, _, h_, _⟩; cases h_) hc4 ?_
 refine LH_take (i := 7) rfl (fun h_ hI_ => Y_fieldAddr (off := 0) (by kernel_rfl) rfl rfl) rfl rfl rfl (by kernel_rfl) (by kernel_rfl) (by kernel_rfl) (fun _ _ _ => by rintro ⟨_, _, h_, _⟩; cases h_) hc4 ?_
 refine LH_take (i := 8) rfl (fun h_ hI_ => Y_ldbox (us := [.int .i64 (k), str p, .int .i64 (m), str tg, .int .i64 (z)]) Tryd.underlying27 rfl (show _ = some 5 by kernel_rfl) rfl hI_ rfl) rfl rfl rfl (by kernel_rfl) (by kernel_rfl) (by kernel_rfl) (fun _ _ _ => by rintro ⟨_, _, h_, _⟩; cases h_) hc4 ?_
 refine LH_take (i := 10) rfl (fun h_ hI_ => Y_fieldAddr (off := 5) (by kernel_rfl) rfl rfl) rfl rfl rfl (by kernel_rfl) (by kernel_rfl) (by kernel_rfl) (fun _ _ _ => by rintro ⟨_, _, h_, _⟩; cases h_) hc4 ?_
 refine LH_take (i := 11) rfl (fun h_ hI_ => Y_ldblk Tryd.underlying28 rfl rfl hI_ rfl) rfl rfl rfl (by kernel_rfl) (by kernel_rfl) (by kernel_rfl) (fun _ _ _ => by rintro ⟨_, _, h_, _⟩; cases h_) hc4 ?_
 refine LH_three (i := 1) (j := 5) (m := 9) (by kernel_rfl) ?_ ?_ ?_
 ·refine LO_mks (i := 1) rfl (M_litr0 (S := memS) (cells := []) (E := 30) rfl rfl (fun _ => by kernel_rfl)) rfl rfl rfl ?_
  rintro v5 h3 ⟨ho6, hx7⟩
  refine ⟨(hc4.ext hx7), ?_⟩
  refine LH_two (i := 5) (j := 9) (by kernel_rfl) ?_ ?_
  ·refine LO_yld (i := 5) rfl (Y_ldblk Tryd.underlying22 rfl rfl (hc.ext ((hn1.ext.trans hx3).trans hx7)) rfl) rfl rfl rfl (hc4.ext hx7) ?_
   refine LH_two (i := 6) (j := 9) (by kernel_rfl) ?_ ?_
   ·refine LO_mks (i := 6) rfl (M_appe (z := 6) (bytes := 80) (z0 := (.agg #[.int .i64 0, str [], .int .i64 0, str [], .int .i64 0, .slice none 0 0])) Tryd.underlying22 (by unfold elemRow; kernel_rfl) rfl rfl (by decide) rfl rfl ho6 (hM.ext ((hn1.ext.trans hx3).trans hx7)) hx7.size (by first | (simp; omega) | (simp; done) | omega)) rfl rfl rfl ?_
    rintro v8 h4 ⟨ho9, hx10⟩
    refine ⟨(hc4.ext (hx7.trans hx10)), ?_⟩
    refine LH_one (i := 9) (by kernel_rfl) ?_
    refine LO_mks (i := 9) rfl (M_litbE (cells := []) (E := 5) rfl rfl (fun _ => by kernel_rfl)) rfl rfl rfl ?_
    rintro v11 h5 ⟨ho12, hx13⟩
    refine ⟨(hc4.ext ((hx7.trans hx10).trans hx13)), ?_⟩
    refine LH_one (i := 12) (by kernel_rfl) ?_
    refine LO_mks (i := 12) rfl (M_appeB Tryd.underlying28 (by unfold elemRow; kernel_rfl) rfl rfl ho12 (hd.ext ((((hn1.ext.trans hx3).trans hx7).trans hx10).trans hx13)) hx13.size (by first | omega | (simp; omega))) rfl rfl rfl ?_
    rintro v14 h6 ⟨ho15, hx16, ho15f⟩
    refine ⟨(hc4.ext (((hx7.trans hx10).trans hx13).trans hx16)), ?_⟩
    refine LH_one (i := 13) (by kernel_rfl) ?_
    refine LO_yld (i := 13) rfl (Y_build (v := .agg #[.int .i64 (k), str p, .int .i64 (m), str tg, .int .i64 (z), v14]) (pv := [(0, .agg #[.int .i64 (k), str p, .int .i64 (m), str tg, .int .i64 (z)]), (1, v14)]) (evp (is := [0, 1]) (os := [.tmp 28, .tmp 32]) (vs := [.agg #[.int .i64 (k), str p, .int .i64 (m), str tg, .int .i64 (z)], v14]) rfl rfl) (fun _ => by obtain ⟨_, _, _, hf1_⟩ := slice_formO ho15.bytes; rw [hf1_]; kernel_rfl)) rfl rfl rfl (hc4.ext (((hx7.trans hx10).trans hx13).trans hx16)) ?_
    refine LH_one (i := 14) (by kernel_rfl) ?_
    refine LO_mks (i := 14) rfl (M_litr (S := memS) (l := ([⟨k, p, m, tg, z, v14, dat⟩] : List Mem)) (cells := [.int .i64 (k), str p, .int .i64 (m), str tg, .int .i64 (z), v14]) (pv := [(0, .agg #[.int .i64 (k), str p, .int .i64 (m), str tg, .int .i64 (z), v14])]) (E := 30) (evp (is := [0]) (os := [.tmp 33]) (vs := [.agg #[.int .i64 (k), str p, .int .i64 (m), str tg, .int .i64 (z), v14]]) rfl rfl) rfl rfl (fun _ => by kernel_rfl) (by simp only [List.mem_cons, List.not_mem_nil, or_false, forall_eq_or_imp, forall_eq]; exact ho15.bytes)) rfl rfl rfl ?_
    rintro v17 h7 ⟨ho18, hx19⟩
    refine ⟨(hc4.ext ((((hx7.trans hx10).trans hx13).trans hx16).trans hx19)), ?_⟩
    refine LH_one (i := 15) (by kernel_rfl) ?_
    have ob2 : Off h7 v14 dat := Off.of (ho15.ext hx19)
    have oy2 := (fun d_ hd_ (hm_ : d_ ∈ (blockOf v8).toList) => Nat.lt_irrefl _ (Nat.lt_of_lt_of_le (Own.lt ho9.1 _ (by simpa using hm_)).2 (Nat.le_trans hx13.size (ho15f d_ hd_))))
    have oz2 := (Nat.le_trans hn1.ext.size hx3.size)
    refine LO_mks (i := 15) rfl (M_apprG (z := 6) (bytes := 80) (z0 := (.agg #[.int .i64 0, str [], .int .i64 0, str [], .int .i64 0, .slice none 0 0])) Tryd.underlying22 (by unfold elemRow; kernel_rfl) rfl rfl (by decide) rfl rfl (ho9.ext ((hx13.trans hx16).trans hx19)) ho18.rows (Nat.le_trans (Nat.le_trans (Nat.le_trans (Nat.le_trans hx7.size hx10.size) hx13.size) hx16.size) hx19.size) (by first | (simp; omega) | (simp; done) | omega) (fun h9 y9 hge x9 hx9 => (List.mem_append.1 hx9).elim (fun q => (hM.ext (Ext.then' ((((((hn1.ext.trans hx3).trans hx7).trans hx10).trans hx13).trans hx16).trans hx19) y9 hge oz2)).2 x9 q) (fun q => by rw [List.mem_singleton.1 q]; exact (ob2.only2 y9 oy2).1))) rfl rfl rfl ?_
    rintro v20 h8 ⟨ha21, ha21l⟩
    refine ⟨(hc4.ext (((((hx7.trans hx10).trans hx13).trans hx16).trans hx19).then' ha21.only ha21.ge (Nat.le_refl _))), ?_⟩
    have me1 := ((((hx7.trans hx10).trans hx13).trans hx16).trans hx19).then' ha21.only ha21.ge (Nat.le_refl _)
    refine LH_take (i := 16) rfl (fun h_ hI_ => Y_nilCheck rfl) rfl rfl rfl (by kernel_rfl) (by kernel_rfl) (by kernel_rfl) (fun _ _ _ => by rintro ⟨_, _, h_, _⟩; cases h_) (hc4.ext me1) ?_
    refine LH_take (i := 17) rfl (fun h_ hI_ => Y_fieldAddr (off := 0) (by kernel_rfl) rfl rfl) rfl rfl rfl (by kernel_rfl) (by kernel_rfl) (by kernel_rfl) (fun _ _ _ => by rintro ⟨_, _, h_, _⟩; cases h_) (hc4.ext me1) ?_
    refine LH_one (i := 18) (by kernel_rfl) ?_
    refine LO_dos (i := 18) rfl (D_store (us := [v20]) (show _ = some 1 by kernel_rfl) rfl rfl (row_cells ha21.own.rows) (by intro u_ hu_; simp only [List.mem_cons, List.not_mem_nil, or_false] at hu_; rcases hu_ with rfl <;> first | rfl | exact row_cell1 ha21.own.rows) (hc.ext (((((((hn1.ext.trans hx3).trans hx7).trans hx10).trans hx13).trans hx16).trans hx19).then' ha21.only ha21.ge (Nat.le_trans hn1.ext.size hx3.size))) (by simp)) rfl rfl ?_
    rintro h9 hp22
    have hc24 := (((((((hc4.ext hx7).ext hx10).ext hx13).ext hx16).ext hx19).only ha21.only (fun hb_ => Nat.lt_irrefl _ (Nat.lt_of_lt_of_le (Nat.lt_of_lt_of_le hk2.lt hx3.size) (ha21.ge _ hb_)))).only hp22.only (ni_gt (Nat.lt_of_lt_of_le hc.lt (Nat.le_refl _))))
    refine ⟨hc24, ?_⟩
    have hk23 : Blk h9 c [v20] := hp22.blk
    refine LH_done (by kernel_rfl) ?_
    refine X_then ?_
    refine W_sub _ (tk1 4) ?_
    refine Wr ?_
    refine Av ?_
    refine L_nil (X_then (W_ret ?_))
    refine X_ret1 rfl rfl ?_
    have ob5 : rerq M k p m tg z dat = 0 := by unfold rerq; rw [if_neg e, if_neg sz]
    have of2 := ob2.only2 ha21.only oy2
    have hu9 := rows_noint hM
    have me2 := ((((hn1.ext.trans hx3).trans hx7).trans hx10).trans hx13).trans hx16
    have me3 := (me2.trans hx19).then' ha21.only ha21.ge (Nat.le_trans hn1.ext.size hx3.size)
    exact ⟨by rw [ob5], .inr ⟨ob5, (Only.trans (Only.trans (Only.trans (Only.trans (Only.trans (Only.trans (Only.trans (Only.trans (Only.trans (Only.refl _ _) hn1.ext (fun _ hb_ => by cases hb_)) hx3 (fun _ hb_ => by cases hb_)) hx7 (fun _ hb_ => by cases hb_)) hx10 (fun _ hb_ => by cases hb_)) hx13 (fun _ hb_ => by cases hb_)) hx16 (fun _ hb_ => by cases hb_)) hx19 (fun _ hb_ => by cases hb_)) ha21.only (fun b_ hb_ => .inr (Nat.le_trans (Nat.le_trans hn1.ext.size hx3.size) (ha21.ge b_ hb_)))) hp22.only (fun b_ hb_ => .inl (by rw [List.mem_singleton.1 hb_]; simp))), _, _, hk23, RowsO.low (rowsM_box ha21.own (by simp) (fun a q => (List.mem_append.1 q).elim (fun q => (hof a q).ext me3) (fun q => by rw [List.mem_singleton.1 q]; exact of2)) (hc.ext (((((((hn1.ext.trans hx3).trans hx7).trans hx10).trans hx13).trans hx16).trans hx19).then' ha21.only ha21.ge (Nat.le_trans hn1.ext.size hx3.size))) hu9 hp22.only) oz2, of2.box (hc.ext (((((((hn1.ext.trans hx3).trans hx7).trans hx10).trans hx13).trans hx16).trans hx19).then' ha21.only ha21.ge (Nat.le_trans hn1.ext.size hx3.size))) hu9.1 hp22.only⟩⟩
   refine LO_mks (i := 9) rfl (M_litbE (cells := []) (E := 5) rfl rfl (fun _ => by kernel_rfl)) rfl rfl rfl ?_
   rintro v25 h10 ⟨ho26, hx27⟩
   refine ⟨(hc4.ext (hx7.trans hx27)), ?_⟩
   refine LH_one (i := 6) (by kernel_rfl) ?_
   refine LO_mks (i := 6) rfl (M_appe (z := 6) (bytes := 80) (z0 := (.agg #[.int .i64 0, str [], .int .i64 0, str [], .int .i64 0, .slice none 0 0])) Tryd.underlying22 (by unfold elemRow; kernel_rfl) rfl rfl (by decide) rfl rfl (ho6.ext hx27) (hM.ext (((hn1.ext.trans hx3).trans hx7).trans hx27)) (Nat.le_trans hx7.size hx27.size) (by first | (simp; omega) | (simp; done) | omega)) rfl rfl rfl ?_
   rintro v28 h11 ⟨ho29, hx30⟩
   refine ⟨(hc4.ext ((hx7.trans hx27).trans hx30)), ?_⟩
   refine LH_one (i := 12) (by kernel_rfl) ?_
   refine LO_mks (i := 12) rfl (M_appeB Tryd.underlying28 (by unfold elemRow; kernel_rfl) rfl rfl (ho26.ext hx30) (hd.ext ((((hn1.ext.trans hx3).trans hx7).trans hx27).trans hx30)) (Nat.le_trans hx27.size hx30.size) (by first | omega | (simp; omega))) rfl rfl rfl ?_
   rintro v31 h12 ⟨ho32, hx33, ho32f⟩
   refine ⟨(hc4.ext (((hx7.trans hx27).trans hx30).trans hx33)), ?_⟩
   refine LH_one (i := 13) (by kernel_rfl) ?_
   refine LO_yld (i := 13) rfl (Y_build (v := .agg #[.int .i64 (k), str p, .int .i64 (m), str tg, .int .i64 (z), v31]) (pv := [(0, .agg #[.int .i64 (k), str p, .int .i64 (m), str tg, .int .i64 (z)]), (1, v31)]) (evp (is := [0, 1]) (os := [.tmp 28, .tmp 32]) (vs := [.agg #[.int .i64 (k), str p, .int .i64 (m), str tg, .int .i64 (z)], v31]) rfl rfl) (fun _ => by obtain ⟨_, _, _, hf1_⟩ := slice_formO ho32.bytes; rw [hf1_]; kernel_rfl)) rfl rfl rfl (hc4.ext (((hx7.trans hx27).trans hx30).trans hx33)) ?_
   refine LH_one (i := 14) (by kernel_rfl) ?_
   refine LO_mks (i := 14) rfl (M_litr (S := memS) (l := ([⟨k, p, m, tg, z, v31, dat⟩] : List Mem)) (cells := [.int .i64 (k), str p, .int .i64 (m), str tg, .int .i64 (z), v31]) (pv := [(0, .agg #[.int .i64 (k), str p, .int .i64 (m), str tg, .int .i64 (z), v31])]) (E := 30) (evp (is := [0]) (os := [.tmp 33]) (vs := [.agg #[.int .i64 (k), str p, .int .i64 (m), str tg, .int .i64 (z), v31]]) rfl rfl) rfl rfl (fun _ => by kernel_rfl) (by simp only [List.mem_cons, List.not_mem_nil, or_false, forall_eq_or_imp, forall_eq]; exact ho32.bytes)) rfl rfl rfl ?_
   rintro v34 h13 ⟨ho35, hx36⟩
   refine ⟨(hc4.ext ((((hx7.trans hx27).trans hx30).trans hx33).trans hx36)), ?_⟩
   refine LH_one (i := 15) (by kernel_rfl) ?_
   have ob2 : Off h13 v31 dat := Off.of (ho32.ext hx36)
   have oy2 := (fun d_ hd_ (hm_ : d_ ∈ (blockOf v28).toList) => Nat.lt_irrefl _ (Nat.lt_of_lt_of_le (Own.lt ho29.1 _ (by simpa using hm_)).2 (Nat.le_trans (Nat.le_refl _) (ho32f d_ hd_))))
   have oz2 := (Nat.le_trans hn1.ext.size hx3.size)
   refine LO_mks (i := 15) rfl (M_apprG (z := 6) (bytes := 80) (z0 := (.agg #[.int .i64 0, str [], .int .i64 0, str [], .int .i64 0, .slice none 0 0])) Tryd.underlying22 (by unfold elemRow; kernel_rfl) rfl rfl (by decide) rfl rfl (ho29.ext (hx33.trans hx36)) ho35.rows (Nat.le_trans (Nat.le_trans (Nat.le_trans (Nat.le_trans hx7.size hx27.size) hx30.size) hx33.size) hx36.size) (by first | (simp; omega) | (simp; done) | omega) (fun h9 y9 hge x9 hx9 => (List.mem_append.1 hx9).elim (fun q => (hM.ext (Ext.then' ((((((hn1.ext.trans hx3).trans hx7).trans hx27).trans hx30).trans hx33).trans hx36) y9 hge oz2)).2 x9 q) (fun q => by rw [List.mem_singleton.1 q]; exact (ob2.only2 y9 oy2).1))) rfl rfl rfl ?_
   rintro v37 h14 ⟨ha38, ha38l⟩
   refine ⟨(hc4.ext (((((hx7.trans hx27).trans hx30).trans hx33).trans hx36).then' ha38.only ha38.ge (Nat.le_refl _))), ?_⟩
   have me4 := ((((hx7.trans hx27).trans hx30).trans hx33).trans hx36).then' ha38.only ha38.ge (Nat.le_refl _)
   refine LH_take (i := 16) rfl (fun h_ hI_ => Y_nilCheck rfl) rfl rfl rfl (by kernel_rfl) (by kernel_rfl) (by kernel_rfl) (fun _ _ _ => by rintro ⟨_, _, h_, _⟩; cases h_) (hc4.ext me4) ?_
   refine LH_take (i := 17) rfl (fun h_ hI_ => Y_fieldAddr (off := 0) (by kernel_rfl) rfl rfl) rfl rfl rfl (by kernel_rfl) (by kernel_rfl) (by kernel_rfl) (fun _ _ _ => by rintro ⟨_, _, h_, _⟩; cases h_) (hc4.ext me4) ?_
   refine LH_one (i := 18) (by kernel_rfl) ?_
   refine LO_dos (i := 18) rfl (D_store (us := [v37]) (show _ = some 1 by kernel_rfl) rfl rfl (row_cells ha38.own.rows) (by intro u_ hu_; simp only [List.mem_cons, List.not_mem_nil, or_false] at hu_; rcases hu_ with rfl <;> first | rfl | exact row_cell1 ha38.own.rows) (hc.ext (((((((hn1.ext.trans hx3).trans hx7).trans hx27).trans hx30).trans hx33).trans hx36).then' ha38.only ha38.ge (Nat.le_trans hn1.ext.size hx3.size))) (by simp)) rfl rfl ?_
   rintro h15 hp39
   have hc41 := (((((((hc4.ext hx7).ext hx27).ext hx30).ext hx33).ext hx36).only ha38.only (fun hb_ => Nat.lt_irrefl _ (Nat.lt_of_lt_of_le (Nat.lt_of_lt_of_le hk2.lt hx3.size) (ha38.ge _ hb_)))).only hp39.only (ni_gt (Nat.lt_of_lt_of_le hc.lt (Nat.le_refl _))))
   refine ⟨hc41, ?_⟩
   have hk40 : Blk h15 c [v37] := hp39.blk
   refine LH_done (by kernel_rfl) ?_
   refine X_then ?_
   refine W_sub _ (tk1 4) ?_
   refine Wr ?_
   refine Av ?_
   refine L_nil (X_then (W_ret ?_))
   refine X_ret1 rfl rfl ?_
   have ob5 : rerq M k p m tg z dat = 0 := by unfold rerq; rw [if_neg e, if_neg sz]
   have of2 := ob2.only2 ha38.only oy2
   have hu9 := rows_noint hM
   have me5 := ((((hn1.ext.trans hx3).trans hx7).trans hx27).trans hx30).trans hx33
   have me6 := (me5.trans hx36).then' ha38.only ha38.ge (Nat.le_trans hn1.ext.size hx3.size)
   exact ⟨by rw [ob5], .inr ⟨ob5, (Only.trans (Only.trans (Only.trans (Only.trans (Only.trans (Only.trans (Only.trans (Only.trans (Only.trans (Only.refl _ _) hn1.ext (fun _ hb_ => by cases hb_)) hx3 (fun _ hb_ => by cases hb_)) hx7 (fun _ hb_ => by cases hb_)) hx27 (fun _ hb_ => by cases hb_)) hx30 (fun _ hb_ => by cases hb_)) hx33 (fun _ hb_ => by cases hb_)) hx36 (fun _ hb_ => by cases hb_)) ha38.only (fun b_ hb_ => .inr (Nat.le_trans (Nat.le_trans hn1.ext.size hx3.size) (ha38.ge b_ hb_)))) hp39.only (fun b_ hb_ => .inl (by rw [List.mem_singleton.1 hb_]; simp))), _, _, hk40, RowsO.low (rowsM_box ha38.own (by simp) (fun a q => (List.mem_append.1 q).elim (fun q => (hof a q).ext me6) (fun q => by rw [List.mem_singleton.1 q]; exact of2)) (hc.ext (((((((hn1.ext.trans hx3).trans hx7).trans hx27).trans hx30).trans hx33).trans hx36).then' ha38.only ha38.ge (Nat.le_trans hn1.ext.size hx3.size))) hu9 hp39.only) oz2, of2.box (hc.ext (((((((hn1.ext.trans hx3).trans hx7).trans hx27).trans hx30).trans hx33).trans hx36).then' ha38.only ha38.ge (Nat.le_trans hn1.ext.size hx3.size))) hu9.1 hp39.only⟩⟩
  refine LO_mks (i := 9) rfl (M_litbE (cells := []) (E := 5) rfl rfl (fun _ => by kernel_rfl)) rfl rfl rfl ?_
  rintro v42 h16 ⟨ho43, hx44⟩
  refine ⟨(hc4.ext (hx7.trans hx44)), ?_⟩
  refine LH_one (i := 5) (by kernel_rfl) ?_
  refine LO_yld (i := 5) rfl (Y_ldblk Tryd.underlying22 rfl rfl (hc.ext (((hn1.ext.trans hx3).trans hx7).trans hx44)) rfl) rfl rfl rfl (hc4.ext (hx7.trans hx44)) ?_
  refine LH_one (i := 6) (by kernel_rfl) ?_
  refine LO_mks (i := 6) rfl (M_appe (z := 6) (bytes := 80) (z0 := (.agg #[.int .i64 0, str [], .int .i64 0, str [], .int .i64 0, .slice none 0 0])) Tryd.underlying22 (by unfold elemRow; kernel_rfl) rfl rfl (by decide) rfl rfl (ho6.ext hx44) (hM.ext (((hn1.ext.trans hx3).trans hx7).trans hx44)) (Nat.le_trans hx7.size hx44.size) (by first | (simp; omega) | (simp; done) | omega)) rfl rfl rfl ?_
  rintro v45 h17 ⟨ho46, hx47⟩
  refine ⟨(hc4.ext ((hx7.trans hx44).trans hx47)), ?_⟩
  refine LH_one (i := 12) (by kernel_rfl) ?_
  refine LO_mks (i := 12) rfl (M_appeB Tryd.underlying28 (by unfold elemRow; kernel_rfl) rfl rfl (ho43.ext hx47) (hd.ext ((((hn1.ext.trans hx3).trans hx7).trans hx44).trans hx47)) (Nat.le_trans hx44.size hx47.size) (by first | omega | (simp; omega))) rfl rfl rfl ?_
  rintro v48 h18 ⟨ho49, hx50, ho49f⟩
  refine ⟨(hc4.ext (((hx7.trans hx44).trans hx47).trans hx50)), ?_⟩
  refine LH_one (i := 13) (by kernel_rfl) ?_
  refine LO_yld (i := 13) rfl (Y_build (v := .agg #[.int .i64 (k), str p, .int .i64 (m), str tg, .int .i64 (z), v48]) (pv := [(0, .agg #[.int .i64 (k), str p, .int .i64 (m), str tg, .int .i64 (z)]), (1, v48)]) (evp (is := [0, 1]) (os := [.tmp 28, .tmp 32]) (vs := [.agg #[.int .i64 (k), str p, .int .i64 (m), str tg, .int .i64 (z)], v48]) rfl rfl) (fun _ => by obtain ⟨_, _, _, hf1_⟩ := slice_formO ho49.bytes; rw [hf1_]; kernel_rfl)) rfl rfl rfl (hc4.ext (((hx7.trans hx44).trans hx47).trans hx50)) ?_
  refine LH_one (i := 14) (by kernel_rfl) ?_
  refine LO_mks (i := 14) rfl (M_litr (S := memS) (l := ([⟨k, p, m, tg, z, v48, dat⟩] : List Mem)) (cells := [.int .i64 (k), str p, .int .i64 (m), str tg, .int .i64 (z), v48]) (pv := [(0, .agg #[.int .i64 (k), str p, .int .i64 (m), str tg, .int .i64 (z), v48])]) (E := 30) (evp (is := [0]) (os := [.tmp 33]) (vs := [.agg #[.int .i64 (k), str p, .int .i64 (m), str tg, .int .i64 (z), v48]]) rfl rfl) rfl rfl (fun _ => by kernel_rfl) (by simp only [List.mem_cons, List.not_mem_nil, or_false, forall_eq_or_imp, forall_eq]; exact ho49.bytes)) rfl rfl rfl ?_
  rintro v51 h19 ⟨ho52, hx53⟩
  refine ⟨(hc4.ext ((((hx7.trans hx44).trans hx47).trans hx50).trans hx53)), ?_⟩
  refine LH_one (i := 15) (by kernel_rfl) ?_
  have ob2 : Off h19 v48 dat := Off.of (ho49.ext hx53)
  have oy2 := (fun d_ hd_ (hm_ : d_ ∈ (blockOf v45).toList) => Nat.lt_irrefl _ (Nat.lt_of_lt_of_le (Own.lt ho46.1 _ (by simpa using hm_)).2 (Nat.le_trans (Nat.le_refl _) (ho49f d_ hd_))))
  have oz2 := (Nat.le_trans hn1.ext.size hx3.size)
  refine LO_mks (i := 15) rfl (M_apprG (z := 6) (bytes := 80) (z0 := (.agg #[.int .i64 0, str [], .int .i64 0, str [], .int .i64 0, .slice none 0 0])) Tryd.underlying22 (by unfold elemRow; kernel_rfl) rfl rfl (by decide) rfl rfl (ho46.ext (hx50.trans hx53)) ho52.rows (Nat.le_trans (Nat.le_trans (Nat.le_trans (Nat.le_trans hx7.size hx44.size) hx47.size) hx50.size) hx53.size) (by first | (simp; omega) | (simp; done) | omega) (fun h9 y9 hge x9 hx9 => (List.mem_append.1 hx9).elim (fun q => (hM.ext (Ext.then' ((((((hn1.ext.trans hx3).trans hx7).trans hx44).trans hx47).trans hx50).trans hx53) y9 hge oz2)).2 x9 q) (fun q => by rw [List.mem_singleton.1 q]; exact (ob2.only2 y9 oy2).1))) rfl rfl rfl ?_
  rintro v54 h20 ⟨ha55, ha55l⟩
  refine ⟨(hc4.ext (((((hx7.trans hx44).trans hx47).trans hx50).trans hx53).then' ha55.only ha55.ge (Nat.le_refl _))), ?_⟩
  have me7 := ((((hx7.trans hx44).trans hx47).trans hx50).trans hx53).then' ha55.only ha55.ge (Nat.le_refl _)
  refine LH_take (i := 16) rfl (fun h_ hI_ => Y_nilCheck rfl) rfl rfl rfl (by kernel_rfl) (by kernel_rfl) (by kernel_rfl) (fun _ _ _ => by rintro ⟨_, _, h_, _⟩; cases h_) (hc4.ext me7) ?_
  refine LH_take (i := 17) rfl (fun h_ hI_ => Y_fieldAddr (off := 0) (by kernel_rfl) rfl rfl) rfl rfl rfl (by kernel_rfl) (by kernel_rfl) (by kernel_rfl) (fun _ _ _ => by rintro ⟨_, _, h_, _⟩; cases h_) (hc4.ext me7) ?_
  refine LH_one (i := 18) (by kernel_rfl) ?_
  refine LO_dos (i := 18) rfl (D_store (us := [v54]) (show _ = some 1 by kernel_rfl) rfl rfl (row_cells ha55.own.rows) (by intro u_ hu_; simp only [List.mem_cons, List.not_mem_nil, or_false] at hu_; rcases hu_ with rfl <;> first | rfl | exact row_cell1 ha55.own.rows) (hc.ext (((((((hn1.ext.trans hx3).trans hx7).trans hx44).trans hx47).trans hx50).trans hx53).then' ha55.only ha55.ge (Nat.le_trans hn1.ext.size hx3.size))) (by simp)) rfl rfl ?_
  rintro h21 hp56
  have hc58 := (((((((hc4.ext hx7).ext hx44).ext hx47).ext hx50).ext hx53).only ha55.only (fun hb_ => Nat.lt_irrefl _ (Nat.lt_of_lt_of_le (Nat.lt_of_lt_of_le hk2.lt hx3.size) (ha55.ge _ hb_)))).only hp56.only (ni_gt (Nat.lt_of_lt_of_le hc.lt (Nat.le_refl _))))
  refine ⟨hc58, ?_⟩
  have hk57 : Blk h21 c [v54] := hp56.blk
  refine LH_done (by kernel_rfl) ?_
  refine X_then ?_
  refine W_sub _ (tk1 4) ?_
  refine Wr ?_
  refine Av ?_
  refine L_nil (X_then (W_ret ?_))
  refine X_ret1 rfl rfl ?_
  have ob5 : rerq M k p m tg z dat = 0 := by unfold rerq; rw [if_neg e, if_neg sz]
  have of2 := ob2.only2 ha55.only oy2
  have hu9 := rows_noint hM
  have me8 := ((((hn1.ext.trans hx3).trans hx7).trans hx44).trans hx47).trans hx50
  have me9 := (me8.trans hx53).then' ha55.only ha55.ge (Nat.le_trans hn1.ext.size hx3.size)
  exact ⟨by rw [ob5], .inr ⟨ob5, (Only.trans (Only.trans (Only.trans (Only.trans (Only.trans (Only.trans (Only.trans (Only.trans (Only.trans (Only.refl _ _) hn1.ext (fun _ hb_ => by cases hb_)) hx3 (fun _ hb_ => by cases hb_)) hx7 (fun _ hb_ => by cases hb_)) hx44 (fun _ hb_ => by cases hb_)) hx47 (fun _ hb_ => by cases hb_)) hx50 (fun _ hb_ => by cases hb_)) hx53 (fun _ hb_ => by cases hb_)) ha55.only (fun b_ hb_ => .inr (Nat.le_trans (Nat.le_trans hn1.ext.size hx3.size) (ha55.ge b_ hb_)))) hp56.only (fun b_ hb_ => .inl (by rw [List.mem_singleton.1 hb_]; simp))), _, _, hk57, RowsO.low (rowsM_box ha55.own (by simp) (fun a q => (List.mem_append.1 q).elim (fun q => (hof a q).ext me9) (fun q => by rw [List.mem_singleton.1 q]; exact of2)) (hc.ext (((((((hn1.ext.trans hx3).trans hx7).trans hx44).trans hx47).trans hx50).trans hx53).then' ha55.only ha55.ge (Nat.le_trans hn1.ext.size hx3.size))) hu9 hp56.only) oz2, of2.box (hc.ext (((((((hn1.ext.trans hx3).trans hx7).trans hx44).trans hx47).trans hx50).trans hx53).then' ha55.only ha55.ge (Nat.le_trans hn1.ext.size hx3.size))) hu9.1 hp56.only⟩⟩
 ·refine LO_yld (i := 5) rfl (Y_ldblk Tryd.underlying22 rfl rfl (hc.ext (hn1.ext.trans hx3)) rfl) rfl rfl rfl hc4 ?_
  refine LH_two (i := 1) (j := 9) (by kernel_rfl) ?_ ?_
  ·refine LO_mks (i := 1) rfl (M_litr0 (S := memS) (cells := []) (E := 30) rfl rfl (fun _ => by kernel_rfl)) rfl rfl rfl ?_
   rintro v59 h22 ⟨ho60, hx61⟩
   refine ⟨(hc4.ext hx61), ?_⟩
   refine LH_two (i := 6) (j := 9) (by kernel_rfl) ?_ ?_
   ·refine LO_mks (i := 6) rfl (M_appe (z := 6) (bytes := 80) (z0 := (.agg #[.int .i64 0, str [], .int .i64 0, str [], .int .i64 0, .slice none 0 0])) Tryd.underlying22 (by unfold elemRow; kernel_rfl) rfl rfl (by decide) rfl rfl ho60 (hM.ext ((hn1.ext.trans hx3).trans hx61)) hx61.size (by first | (simp; omega) | (simp; done) | omega)) rfl rfl rfl ?_
    rintro v62 h23 ⟨ho63, hx64⟩
    refine ⟨(hc4.ext (hx61.trans hx64)), ?_⟩
    refine LH_one (i := 9) (by kernel_rfl) ?_
    refine LO_mks (i := 9) rfl (M_litbE (cells := []) (E := 5) rfl rfl (fun _ => by kernel_rfl)) rfl rfl rfl ?_
    rintro v65 h24 ⟨ho66, hx67⟩
    refine ⟨(hc4.ext ((hx61.trans hx64).trans hx67)), ?_⟩
    refine LH_one (i := 12) (by kernel_rfl) ?_
    refine LO_mks (i := 12) rfl (M_appeB Tryd.underlying28 (by unfold elemRow; kernel_rfl) rfl rfl ho66 (hd.ext ((((hn1.ext.trans hx3).trans hx61).trans hx64).trans hx67)) hx67.size (by first | omega | (simp; omega))) rfl rfl rfl ?_
    rintro v68 h25 ⟨ho69, hx70, ho69f⟩
    refine ⟨(hc4.ext (((hx61.trans hx64).trans hx67).trans hx70)), ?_⟩
    refine LH_one (i := 13) (by kernel_rfl) ?_
    refine LO_yld (i := 13) rfl (Y_build (v := .agg #[.int .i64 (k), str p, .int .i64 (m), str tg, .int .i64 (z), v68]) (pv := [(0, .agg #[.int .i64 (k), str p, .int .i64 (m), str tg, .int .i64 (z)]), (1, v68)]) (evp (is := [0, 1]) (os := [.tmp 28, .tmp 32]) (vs := [.agg #[.int .i64 (k), str p, .int .i64 (m), str tg, .int .i64 (z)], v68]) rfl rfl) (fun _ => by obtain ⟨_, _, _, hf1_⟩ := slice_formO ho69.bytes; rw [hf1_]; kernel_rfl)) rfl rfl rfl (hc4.ext (((hx61.trans hx64).trans hx67).trans hx70)) ?_
    refine LH_one (i := 14) (by kernel_rfl) ?_
    refine LO_mks (i := 14) rfl (M_litr (S := memS) (l := ([⟨k, p, m, tg, z, v68, dat⟩] : List Mem)) (cells := [.int .i64 (k), str p, .int .i64 (m), str tg, .int .i64 (z), v68]) (pv := [(0, .agg #[.int .i64 (k), str p, .int .i64 (m), str tg, .int .i64 (z), v68])]) (E := 30) (evp (is := [0]) (os := [.tmp 33]) (vs := [.agg #[.int .i64 (k), str p, .int .i64 (m), str tg, .int .i64 (z), v68]]) rfl rfl) rfl rfl (fun _ => by kernel_rfl) (by simp only [List.mem_cons, List.not_mem_nil, or_false, forall_eq_or_imp, forall_eq]; exact ho69.bytes)) rfl rfl rfl ?_
    rintro v71 h26 ⟨ho72, hx73⟩
    refine ⟨(hc4.ext ((((hx61.trans hx64).trans hx67).trans hx70).trans hx73)), ?_⟩
    refine LH_one (i := 15) (by kernel_rfl) ?_
    have ob2 : Off h26 v68 dat := Off.of (ho69.ext hx73)
    have oy2 := (fun d_ hd_ (hm_ : d_ ∈ (blockOf v62).toList) => Nat.lt_irrefl _ (Nat.lt_of_lt_of_le (Own.lt ho63.1 _ (by simpa using hm_)).2 (Nat.le_trans hx67.size (ho69f d_ hd_))))
    have oz2 := (Nat.le_trans hn1.ext.size hx3.size)
    refine LO_mks (i := 15) rfl (M_apprG (z := 6) (bytes := 80) (z0 := (.agg #[.int .i64 0, str [], .int .i64 0, str [], .int .i64 0, .slice none 0 0])) Tryd.underlying22 (by unfold elemRow; kernel_rfl) rfl rfl (by decide) rfl rfl (ho63.ext ((hx67.trans hx70).trans hx73)) ho72.rows (Nat.le_trans (Nat.le_trans (Nat.le_trans (Nat.le_trans hx61.size hx64.size) hx67.size) hx70.size) hx73.size) (by first | (simp; omega) | (simp; done) | omega) (fun h9 y9 hge x9 hx9 => (List.mem_append.1 hx9).elim (fun q => (hM.ext (Ext.then' ((((((hn1.ext.trans hx3).trans hx61).trans hx64).trans hx67).trans hx70).trans hx73) y9 hge oz2)).2 x9 q) (fun q => by rw [List.mem_singleton.1 q]; exact (ob2.only2 y9 oy2).1))) rfl rfl rfl ?_
    rintro v74 h27 ⟨ha75, ha75l⟩
    refine ⟨(hc4.ext (((((hx61.trans hx64).trans hx67).trans hx70).trans hx73).then' ha75.only ha75.ge (Nat.le_refl _))), ?_⟩
    have me10 := ((((hx61.trans hx64).trans hx67).trans hx70).trans hx73).then' ha75.only ha75.ge (Nat.le_refl _)
    refine LH_take (i := 16) rfl (fun h_ hI_ => Y_nilCheck rfl) rfl rfl rfl (by kernel_rfl) (by kernel_rfl) (by kernel_rfl) (fun _ _ _ => by rintro ⟨_, _, h_, _⟩; cases h_) (hc4.ext me10) ?_
    refine LH_take (i := 17) rfl (fun h_ hI_ => Y_fieldAddr (off := 0) (by kernel_rfl) rfl rfl) rfl rfl rfl (by kernel_rfl) (by kernel_rfl) (by kernel_rfl) (fun _ _ _ => by rintro ⟨_, _, h_, _⟩; cases h_) (hc4.ext me10) ?_
    refine LH_one (i := 18) (by kernel_rfl) ?_
    refine LO_dos (i := 18) rfl (D_store (us := [v74]) (show _ = some 1 by kernel_rfl) rfl rfl (row_cells ha75.own.rows) (by intro u_ hu_; simp only [List.mem_cons, List.not_mem_nil, or_false] at hu_; rcases hu_ with rfl <;> first | rfl | exact row_cell1 ha75.own.rows) (hc.ext (((((((hn1.ext.trans hx3).trans hx61).trans hx64).trans hx67).trans hx70).trans hx73).then' ha75.only ha75.ge (Nat.le_trans hn1.ext.size hx3.size))) (by simp)) rfl rfl ?_
    rintro h28 hp76
    have hc78 := (((((((hc4.ext hx61).ext hx64).ext hx67).ext hx70).ext hx73).only ha75.only (fun hb_ => Nat.lt_irrefl _ (Nat.lt_of_lt_of_le (Nat.lt_of_lt_of_le hk2.lt hx3.size) (ha75.ge _ hb_)))).only hp76.only (ni_gt (Nat.lt_of_lt_of_le hc.lt (Nat.le_refl _))))
    refine ⟨hc78, ?_⟩
    have hk77 : Blk h28 c [v74] := hp76.blk
    refine LH_done (by kernel_rfl) ?_
    refine X_then ?_
    refine W_sub _ (tk1 4) ?_
    refine Wr ?_
    refine Av ?_
    refine L_nil (X_then (W_ret ?_))
    refine X_ret1 rfl rfl ?_
    have ob5 : rerq M k p m tg z dat = 0 := by unfold rerq; rw [if_neg e, if_neg sz]
    have of2 := ob2.only2 ha75.only oy2
    have hu9 := rows_noint hM
    have me11 := ((((hn1.ext.trans hx3).trans hx61).trans hx64).trans hx67).trans hx70
    have me12 := (me11.trans hx73).then' ha75.only ha75.ge (Nat.le_trans hn1.ext.size hx3.size)
    exact ⟨by rw [ob5], .inr ⟨ob5, (Only.trans (Only.trans (Only.trans (Only.trans (Only.trans (Only.trans (Only.trans (Only.trans (Only.trans (Only.refl _ _) hn1.ext (fun _ hb_ => by cases hb_)) hx3 (fun _ hb_ => by cases hb_)) hx61 (fun _ hb_ => by cases hb_)) hx64 (fun _ hb_ => by cases hb_)) hx67 (fun _ hb_ => by cases hb_)) hx70 (fun _ hb_ => by cases hb_)) hx73 (fun _ hb_ => by cases hb_)) ha75.only (fun b_ hb_ => .inr (Nat.le_trans (Nat.le_trans hn1.ext.size hx3.size) (ha75.ge b_ hb_)))) hp76.only (fun b_ hb_ => .inl (by rw [List.mem_singleton.1 hb_]; simp))), _, _, hk77, RowsO.low (rowsM_box ha75.own (by simp) (fun a q => (List.mem_append.1 q).elim (fun q => (hof a q).ext me12) (fun q => by rw [List.mem_singleton.1 q]; exact of2)) (hc.ext (((((((hn1.ext.trans hx3).trans hx61).trans hx64).trans hx67).trans hx70).trans hx73).then' ha75.only ha75.ge (Nat.le_trans hn1.ext.size hx3.size))) hu9 hp76.only) oz2, of2.box (hc.ext (((((((hn1.ext.trans hx3).trans hx61).trans hx64).trans hx67).trans hx70).trans hx73).then' ha75.only ha75.ge (Nat.le_trans hn1.ext.size hx3.size))) hu9.1 hp76.only⟩⟩
   refine LO_mks (i := 9) rfl (M_litbE (cells := []) (E := 5) rfl rfl (fun _ => by kernel_rfl)) rfl rfl rfl ?_
   rintro v79 h29 ⟨ho80, hx81⟩
   refine ⟨(hc4.ext (hx61.trans hx81)), ?_⟩
   refine LH_one (i := 6) (by kernel_rfl) ?_
   refine LO_mks (i := 6) rfl (M_appe (z := 6) (bytes := 80) (z0 := (.agg #[.int .i64 0, str [], .int .i64 0, str [], .int .i64 0, .slice none 0 0])) Tryd.underlying22 (by unfold elemRow; kernel_rfl) rfl rfl (by decide) rfl rfl (ho60.ext hx81) (hM.ext (((hn1.ext.trans hx3).trans hx61).trans hx81)) (Nat.le_trans hx61.size hx81.size) (by first | (simp; omega) | (simp; done) | omega)) rfl rfl rfl ?_
   rintro v82 h30 ⟨ho83, hx84⟩
   refine ⟨(hc4.ext ((hx61.trans hx81).trans hx84)), ?_⟩
   refine LH_one (i := 12) (by kernel_rfl) ?_
   refine LO_mks (i := 12) rfl (M_appeB Tryd.underlying28 (by unfold elemRow; kernel_rfl) rfl rfl (ho80.ext hx84) (hd.ext ((((hn1.ext.trans hx3).trans hx61).trans hx81).trans hx84)) (Nat.le_trans hx81.size hx84.size) (by first | omega | (simp; omega))) rfl rfl rfl ?_
   rintro v85 h31 ⟨ho86, hx87, ho86f⟩
   refine ⟨(hc4.ext (((hx61.trans hx81).trans hx84).trans hx87)), ?_⟩
   refine LH_one (i := 13) (by kernel_rfl) ?_
   refine LO_yld (i := 13) rfl (Y_build (v := .agg #[.int .i64 (k), str p, .int .i64 (m), str tg, .int .i64 (z), v85]) (pv := [(0, .agg #[.int .i64 (k), str p, .int .i64 (m), str tg, .int .i64 (z)]), (1, v85)]) (evp (is := [0, 1]) (os := [.tmp 28, .tmp 32]) (vs := [.agg #[.int .i64 (k), str p, .int .i64 (m), str tg, .int .i64 (z)], v85]) rfl rfl) (fun _ => by obtain ⟨_, _, _, hf1_⟩ := slice_formO ho86.bytes; rw [hf1_]; kernel_rfl)) rfl rfl rfl (hc4.ext (((hx61.trans hx81).trans hx84).trans hx87)) ?_
   refine LH_one (i := 14) (by kernel_rfl) ?_
   refine LO_mks (i := 14) rfl (M_litr (S := memS) (l := ([⟨k, p, m, tg, z, v85, dat⟩] : List Mem)) (cells := [.int .i64 (k), str p, .int .i64 (m), str tg, .int .i64 (z), v85]) (pv := [(0, .agg #[.int .i64 (k), str p, .int .i64 (m), str tg, .int .i64 (z), v85])]) (E := 30) (evp (is := [0]) (os := [.tmp 33]) (vs := [.agg #[.int .i64 (k), str p, .int .i64 (m), str tg, .int .i64 (z), v85]]) rfl rfl) rfl rfl (fun _ => by kernel_rfl) (by simp only [List.mem_cons, List.not_mem_nil, or_false, forall_eq_or_imp, forall_eq]; exact ho86.bytes)) rfl rfl rfl ?_
   rintro v88 h32 ⟨ho89, hx90⟩
   refine ⟨(hc4.ext ((((hx61.trans hx81).trans hx84).trans hx87).trans hx90)), ?_⟩
   refine LH_one (i := 15) (by kernel_rfl) ?_
   have ob2 : Off h32 v85 dat := Off.of (ho86.ext hx90)
   have oy2 := (fun d_ hd_ (hm_ : d_ ∈ (blockOf v82).toList) => Nat.lt_irrefl _ (Nat.lt_of_lt_of_le (Own.lt ho83.1 _ (by simpa using hm_)).2 (Nat.le_trans (Nat.le_refl _) (ho86f d_ hd_))))
   have oz2 := (Nat.le_trans hn1.ext.size hx3.size)
   refine LO_mks (i := 15) rfl (M_apprG (z := 6) (bytes := 80) (z0 := (.agg #[.int .i64 0, str [], .int .i64 0, str [], .int .i64 0, .slice none 0 0])) Tryd.underlying22 (by unfold elemRow; kernel_rfl) rfl rfl (by decide) rfl rfl (ho83.ext (hx87.trans hx90)) ho89.rows (Nat.le_trans (Nat.le_trans (Nat.le_trans (Nat.le_trans hx61.size hx81.size) hx84.size) hx87.size) hx90.size) (by first | (simp; omega) | (simp; done) | omega) (fun h9 y9 hge x9 hx9 => (List.mem_append.1 hx9).elim (fun q => (hM.ext (Ext.then' ((((((hn1.ext.trans hx3).trans hx61).trans hx81).trans hx84).trans hx87).trans hx90) y9 hge oz2)).2 x9 q) (fun q => by rw [List.mem_singleton.1 q]; exact (ob2.only2 y9 oy2).1))) rfl rfl rfl ?_
   rintro v91 h33 ⟨ha92, ha92l⟩
   refine ⟨(hc4.ext (((((hx61.trans hx81).trans hx84).trans hx87).trans hx90).then' ha92.only ha92.ge (Nat.le_refl _))), ?_⟩
   have me13 := ((((hx61.trans hx81).trans hx84).trans hx87).trans hx90).then' ha92.only ha92.ge (Nat.le_refl _)
   refine LH_take (i := 16) rfl (fun h_ hI_ => Y_nilCheck rfl) rfl rfl rfl (by kernel_rfl) (by kernel_rfl) (by kernel_rfl) (fun _ _ _ => by rintro ⟨_, _, h_, _⟩; cases h_) (hc4.ext me13) ?_
   refine LH_take (i := 17) rfl (fun h_ hI_ => Y_fieldAddr (off := 0) (by kernel_rfl) rfl rfl) rfl rfl rfl (by kernel_rfl) (by kernel_rfl) (by kernel_rfl) (fun _ _ _ => by rintro ⟨_, _, h_, _⟩; cases h_) (hc4.ext me13) ?_
   refine LH_one (i := 18) (by kernel_rfl) ?_
   refine LO_dos (i := 18) rfl (D_store (us := [v91]) (show _ = some 1 by kernel_rfl) rfl rfl (row_cells ha92.own.rows) (by intro u_ hu_; simp only [List.mem_cons, List.not_mem_nil, or_false] at hu_; rcases hu_ with rfl <;> first | rfl | exact row_cell1 ha92.own.rows) (hc.ext (((((((hn1.ext.trans hx3).trans hx61).trans hx81).trans hx84).trans hx87).trans hx90).then' ha92.only ha92.ge (Nat.le_trans hn1.ext.size hx3.size))) (by simp)) rfl rfl ?_
   rintro h34 hp93
   have hc95 := (((((((hc4.ext hx61).ext hx81).ext hx84).ext hx87).ext hx90).only ha92.only (fun hb_ => Nat.lt_irrefl _ (Nat.lt_of_lt_of_le (Nat.lt_of_lt_of_le hk2.lt hx3.size) (ha92.ge _ hb_)))).only hp93.only (ni_gt (Nat.lt_of_lt_of_le hc.lt (Nat.le_refl _))))
   refine ⟨hc95, ?_⟩
   have hk94 : Blk h34 c [v91] := hp93.blk
   refine LH_done (by kernel_rfl) ?_
   refine X_then ?_
   refine W_sub _ (tk1 4) ?_
   refine Wr ?_
   refine Av ?_
   refine L_nil (X_then (W_ret ?_))
   refine X_ret1 rfl rfl ?_
   have ob5 : rerq M k p m tg z dat = 0 := by unfold rerq; rw [if_neg e, if_neg sz]
   have of2 := ob2.only2 ha92.only oy2
   have hu9 := rows_noint hM
   have me14 := ((((hn1.ext.trans hx3).trans hx61).trans hx81).trans hx84).trans hx87
   have me15 := (me14.trans hx90).then' ha92.only ha92.ge (Nat.le_trans hn1.ext.size hx3.size)
   exact ⟨by rw [ob5], .inr ⟨ob5, (Only.trans (Only.trans (Only.trans (Only.trans (Only.trans (Only.trans (Only.trans (Only.trans (Only.trans (Only.refl _ _) hn1.ext (fun _ hb_ => by cases hb_)) hx3 (fun _ hb_ => by cases hb_)) hx61 (fun _ hb_ => by cases hb_)) hx81 (fun _ hb_ => by cases hb_)) hx84 (fun _ hb_ => by cases hb_)) hx87 (fun _ hb_ => by cases hb_)) hx90 (fun _ hb_ => by cases hb_)) ha92.only (fun b_ hb_ => .inr (Nat.le_trans (Nat.le_trans hn1.ext.size hx3.size) (ha92.ge b_ hb_)))) hp93.only (fun b_ hb_ => .inl (by rw [List.mem_singleton.1 hb_]; simp))), _, _, hk94, RowsO.low (rowsM_box ha92.own (by simp) (fun a q => (List.mem_append.1 q).elim (fun q => (hof a q).ext me15) (fun q => by rw [List.mem_singleton.1 q]; exact of2)) (hc.ext (((((((hn1.ext.trans hx3).trans hx61).trans hx81).trans hx84).trans hx87).trans hx90).then' ha92.only ha92.ge (Nat.le_trans hn1.ext.size hx3.size))) hu9 hp93.only) oz2, of2.box (hc.ext (((((((hn1.ext.trans hx3).trans hx61).trans hx81).trans hx84).trans hx87).trans hx90).then' ha92.only ha92.ge (Nat.le_trans hn1.ext.size hx3.size))) hu9.1 hp93.only⟩⟩
  refine LO_mks (i := 9) rfl (M_litbE (cells := []) (E := 5) rfl rfl (fun _ => by kernel_rfl)) rfl rfl rfl ?_
  rintro v96 h35 ⟨ho97, hx98⟩
  refine ⟨(hc4.ext hx98), ?_⟩
  refine LH_one (i := 1) (by kernel_rfl) ?_
  refine LO_mks (i := 1) rfl (M_litr0 (S := memS) (cells := []) (E := 30) rfl rfl (fun _ => by kernel_rfl)) rfl rfl rfl ?_
  rintro v99 h36 ⟨ho100, hx101⟩
  refine ⟨(hc4.ext (hx98.trans hx101)), ?_⟩
  refine LH_one (i := 6) (by kernel_rfl) ?_
  refine LO_mks (i := 6) rfl (M_appe (z := 6) (bytes := 80) (z0 := (.agg #[.int .i64 0, str [], .int .i64 0, str [], .int .i64 0, .slice none 0 0])) Tryd.underlying22 (by unfold elemRow; kernel_rfl) rfl rfl (by decide) rfl rfl ho100 (hM.ext (((hn1.ext.trans hx3).trans hx98).trans hx101)) hx101.size (by first | (simp; omega) | (simp; done) | omega)) rfl rfl rfl ?_
  rintro v102 h37 ⟨ho103, hx104⟩
  refine ⟨(hc4.ext ((hx98.trans hx101).trans hx104)), ?_⟩
  refine LH_one (i := 12) (by kernel_rfl) ?_
  refine LO_mks (i := 12) rfl (M_appeB Tryd.underlying28 (by unfold elemRow; kernel_rfl) rfl rfl (ho97.ext (hx101.trans hx104)) (hd.ext ((((hn1.ext.trans hx3).trans hx98).trans hx101).trans hx104)) (Nat.le_trans (Nat.le_trans hx98.size hx101.size) hx104.size) (by first | omega | (simp; omega))) rfl rfl rfl ?_
  rintro v105 h38 ⟨ho106, hx107, ho106f⟩
  refine ⟨(hc4.ext (((hx98.trans hx101).trans hx104).trans hx107)), ?_⟩
  refine LH_one (i := 13) (by kernel_rfl) ?_
  refine LO_yld (i := 13) rfl (Y_build (v := .agg #[.int .i64 (k), str p, .int .i64 (m), str tg, .int .i64 (z), v105]) (pv := [(0, .agg #[.int .i64 (k), str p, .int .i64 (m), str tg, .int .i64 (z)]), (1, v105)]) (evp (is := [0, 1]) (os := [.tmp 28, .tmp 32]) (vs := [.agg #[.int .i64 (k), str p, .int .i64 (m), str tg, .int .i64 (z)], v105]) rfl rfl) (fun _ => by obtain ⟨_, _, _, hf1_⟩ := slice_formO ho106.bytes; rw [hf1_]; kernel_rfl)) rfl rfl rfl (hc4.ext (((hx98.trans hx101).trans hx104).trans hx107)) ?_
  refine LH_one (i := 14) (by kernel_rfl) ?_
  refine LO_mks (i := 14) rfl (M_litr (S := memS) (l := ([⟨k, p, m, tg, z, v105, dat⟩] : List Mem)) (cells := [.int .i64 (k), str p, .int .i64 (m), str tg, .int .i64 (z), v105]) (pv := [(0, .agg #[.int .i64 (k), str p, .int .i64 (m), str tg, .int .i64 (z), v105])]) (E := 30) (evp (is := [0]) (os := [.tmp 33]) (vs := [.agg #[.int .i64 (k), str p, .int .i64 (m), str tg, .int .i64 (z), v105]]) rfl rfl) rfl rfl (fun _ => by kernel_rfl) (by simp only [List.mem_cons, List.not_mem_nil, or_false, forall_eq_or_imp, forall_eq]; exact ho106.bytes)) rfl rfl rfl ?_
  rintro v108 h39 ⟨ho109, hx110⟩
  refine ⟨(hc4.ext ((((hx98.trans hx101).trans hx104).trans hx107).trans hx110)), ?_⟩
  refine LH_one (i := 15) (by kernel_rfl) ?_
  have ob2 : Off h39 v105 dat := Off.of (ho106.ext hx110)
  have oy2 := (fun d_ hd_ (hm_ : d_ ∈ (blockOf v102).toList) => Nat.lt_irrefl _ (Nat.lt_of_lt_of_le (Own.lt ho103.1 _ (by simpa using hm_)).2 (Nat.le_trans (Nat.le_refl _) (ho106f d_ hd_))))
  have oz2 := (Nat.le_trans (Nat.le_trans hn1.ext.size hx3.size) hx98.size)
  refine LO_mks (i := 15) rfl (M_apprG (z := 6) (bytes := 80) (z0 := (.agg #[.int .i64 0, str [], .int .i64 0, str [], .int .i64 0, .slice none 0 0])) Tryd.underlying22 (by unfold elemRow; kernel_rfl) rfl rfl (by decide) rfl rfl (ho103.ext (hx107.trans hx110)) ho109.rows (Nat.le_trans (Nat.le_trans (Nat.le_trans hx101.size hx104.size) hx107.size) hx110.size) (by first | (simp; omega) | (simp; done) | omega) (fun h9 y9 hge x9 hx9 => (List.mem_append.1 hx9).elim (fun q => (hM.ext (Ext.then' ((((((hn1.ext.trans hx3).trans hx98).trans hx101).trans hx104).trans hx107).trans hx110) y9 hge oz2)).2 x9 q) (fun q => by rw [List.mem_singleton.1 q]; exact (ob2.only2 y9 oy2).1))) rfl rfl rfl ?_
  rintro v111 h40 ⟨ha112, ha112l⟩
  refine ⟨(hc4.ext (((((hx98.trans hx101).trans hx104).trans hx107).trans hx110).then' ha112.only ha112.ge hx98.size)), ?_⟩
  have me16 := (((hx98.trans hx101).trans hx104).trans hx107).trans hx110
  refine LH_take (i := 16) rfl (fun h_ hI_ => Y_nilCheck rfl) rfl rfl rfl (by kernel_rfl) (by kernel_rfl) (by kernel_rfl) (fun _ _ _ => by rintro ⟨_, _, h_, _⟩; cases h_) (hc4.ext (me16.then' ha112.only ha112.ge hx98.size)) ?_
  refine LH_take (i := 17) rfl (fun h_ hI_ => Y_fieldAddr (off := 0) (by kernel_rfl) rfl rfl) rfl rfl rfl (by kernel_rfl) (by kernel_rfl) (by kernel_rfl) (fun _ _ _ => by rintro ⟨_, _, h_, _⟩; cases h_) (hc4.ext (me16.then' ha112.only ha112.ge hx98.size)) ?_
  refine LH_one (i := 18) (by kernel_rfl) ?_
  refine LO_dos (i := 18) rfl (D_store (us := [v111]) (show _ = some 1 by kernel_rfl) rfl rfl (row_cells ha112.own.rows) (by intro u_ hu_; simp only [List.mem_cons, List.not_mem_nil, or_false] at hu_; rcases hu_ with rfl <;> first | rfl | exact row_cell1 ha112.own.rows) (hc.ext (((((((hn1.ext.trans hx3).trans hx98).trans hx101).trans hx104).trans hx107).trans hx110).then' ha112.only ha112.ge (Nat.le_trans (Nat.le_trans hn1.ext.size hx3.size) hx98.size))) (by simp)) rfl rfl ?_
  rintro h41 hp113
  have hc115 := (((((((hc4.ext hx98).ext hx101).ext hx104).ext hx107).ext hx110).only ha112.only (fun hb_ => Nat.lt_irrefl _ (Nat.lt_of_lt_of_le (Nat.lt_of_lt_of_le hk2.lt (Nat.le_trans hx3.size hx98.size)) (ha112.ge _ hb_)))).only hp113.only (ni_gt (Nat.lt_of_lt_of_le hc.lt (Nat.le_refl _))))
  refine ⟨hc115, ?_⟩
  have hk114 : Blk h41 c [v111] := hp113.blk
  refine LH_done (by kernel_rfl) ?_
  refine X_then ?_
  refine W_sub _ (tk1 4) ?_
  refine Wr ?_
  refine Av ?_
  refine L_nil (X_then (W_ret ?_))
  refine X_ret1 rfl rfl ?_
  have ob5 : rerq M k p m tg z dat = 0 := by unfold rerq; rw [if_neg e, if_neg sz]
  have of2 := ob2.only2 ha112.only oy2
  have hu9 := rows_noint hM
  have me17 := Nat.le_trans (Nat.le_trans hn1.ext.size hx3.size) hx98.size
  have me18 := (((hn1.ext.trans hx3).trans hx98).trans hx101).trans hx104
  have me19 := ((me18.trans hx107).trans hx110).then' ha112.only ha112.ge me17
  exact ⟨by rw [ob5], .inr ⟨ob5, (Only.trans (Only.trans (Only.trans (Only.trans (Only.trans (Only.trans (Only.trans (Only.trans (Only.trans (Only.refl _ _) hn1.ext (fun _ hb_ => by cases hb_)) hx3 (fun _ hb_ => by cases hb_)) hx98 (fun _ hb_ => by cases hb_)) hx101 (fun _ hb_ => by cases hb_)) hx104 (fun _ hb_ => by cases hb_)) hx107 (fun _ hb_ => by cases hb_)) hx110 (fun _ hb_ => by cases hb_)) ha112.only (fun b_ hb_ => .inr (Nat.le_trans me17 (ha112.ge b_ hb_)))) hp113.only (fun b_ hb_ => .inl (by rw [List.mem_singleton.1 hb_]; simp))), _, _, hk114, RowsO.low (rowsM_box ha112.own (by simp) (fun a q => (List.mem_append.1 q).elim (fun q => (hof a q).ext me19) (fun q => by rw [List.mem_singleton.1 q]; exact of2)) (hc.ext (((((((hn1.ext.trans hx3).trans hx98).trans hx101).trans hx104).trans hx107).trans hx110).then' ha112.only ha112.ge (Nat.le_trans (Nat.le_trans hn1.ext.size hx3.size) hx98.size))) hu9 hp113.only) oz2, of2.box (hc.ext (((((((hn1.ext.trans hx3).trans hx98).trans hx101).trans hx104).trans hx107).trans hx110).then' ha112.only ha112.ge (Nat.le_trans (Nat.le_trans hn1.ext.size hx3.size) hx98.size))) hu9.1 hp113.only⟩⟩
 refine LO_mks (i := 9) rfl (M_litbE (cells := []) (E := 5) rfl rfl (fun _ => by kernel_rfl)) rfl rfl rfl ?_
 rintro v116 h42 ⟨ho117, hx118⟩
 refine ⟨(hc4.ext hx118), ?_⟩
 refine LH_two (i := 1) (j := 5) (by kernel_rfl) ?_ ?_
 ·refine LO_mks (i := 1) rfl (M_litr0 (S := memS) (cells := []) (E := 30) rfl rfl (fun _ => by kernel_rfl)) rfl rfl rfl ?_
  rintro v119 h43 ⟨ho120, hx121⟩
  refine ⟨(hc4.ext (hx118.trans hx121)), ?_⟩
  refine LH_one (i := 5) (by kernel_rfl) ?_
  refine LO_yld (i := 5) rfl (Y_ldblk Tryd.underlying22 rfl rfl (hc.ext (((hn1.ext.trans hx3).trans hx118).trans hx121)) rfl) rfl rfl rfl (hc4.ext (hx118.trans hx121)) ?_
  refine LH_one (i := 6) (by kernel_rfl) ?_
  refine LO_mks (i := 6) rfl (M_appe (z := 6) (bytes := 80) (z0 := (.agg #[.int .i64 0, str [], .int .i64 0, str [], .int .i64 0, .slice none 0 0])) Tryd.underlying22 (by unfold elemRow; kernel_rfl) rfl rfl (by decide) rfl rfl ho120 (hM.ext (((hn1.ext.trans hx3).trans hx118).trans hx121)) hx121.size (by first | (simp; omega) | (simp; done) | omega)) rfl rfl rfl ?_
  rintro v122 h44 ⟨ho123, hx124⟩
  refine ⟨(hc4.ext ((hx118.trans hx121).trans hx124)), ?_⟩
  refine LH_one (i := 12) (by kernel_rfl) ?_
  refine LO_mks (i := 12) rfl (M_appeB Tryd.underlying28 (by unfold elemRow; kernel_rfl) rfl rfl (ho117.ext (hx121.trans hx124)) (hd.ext ((((hn1.ext.trans hx3).trans hx118).trans hx121).trans hx124)) (Nat.le_trans (Nat.le_trans hx118.size hx121.size) hx124.size) (by first | omega | (simp; omega))) rfl rfl rfl ?_
  rintro v125 h45 ⟨ho126, hx127, ho126f⟩
  refine ⟨(hc4.ext (((hx118.trans hx121).trans hx124).trans hx127)), ?_⟩
  refine LH_one (i := 13) (by kernel_rfl) ?_
  refine LO_yld (i := 13) rfl (Y_build (v := .agg #[.int .i64 (k), str p, .int .i64 (m), str tg, .int .i64 (z), v125]) (pv := [(0, .agg #[.int .i64 (k), str p, .int .i64 (m), str tg, .int .i64 (z)]), (1, v125)]) (evp (is := [0, 1]) (os := [.tmp 28, .tmp 32]) (vs := [.agg #[.int .i64 (k), str p, .int .i64 (m), str tg, .int .i64 (z)], v125]) rfl rfl) (fun _ => by obtain ⟨_, _, _, hf1_⟩ := slice_formO ho126.bytes; rw [hf1_]; kernel_rfl)) rfl rfl rfl (hc4.ext (((hx118.trans hx121).trans hx124).trans hx127)) ?_
  refine LH_one (i := 14) (by kernel_rfl) ?_
  refine LO_mks (i := 14) rfl (M_litr (S := memS) (l := ([⟨k, p, m, tg, z, v125, dat⟩] : List Mem)) (cells := [.int .i64 (k), str p, .int .i64 (m), str tg, .int .i64 (z), v125]) (pv := [(0, .agg #[.int .i64 (k), str p, .int .i64 (m), str tg, .int .i64 (z), v125])]) (E := 30) (evp (is := [0]) (os := [.tmp 33]) (vs := [.agg #[.int .i64 (k), str p, .int .i64 (m), str tg, .int .i64 (z), v125]]) rfl rfl) rfl rfl (fun _ => by kernel_rfl) (by simp only [List.mem_cons, List.not_mem_nil, or_false, forall_eq_or_imp, forall_eq]; exact ho126.bytes)) rfl rfl rfl ?_
  rintro v128 h46 ⟨ho129, hx130⟩
  refine ⟨(hc4.ext ((((hx118.trans hx121).trans hx124).trans hx127).trans hx130)), ?_⟩
  refine LH_one (i := 15) (by kernel_rfl) ?_
  have ob2 : Off h46 v125 dat := Off.of (ho126.ext hx130)
  have oy2 := (fun d_ hd_ (hm_ : d_ ∈ (blockOf v122).toList) => Nat.lt_irrefl _ (Nat.lt_of_lt_of_le (Own.lt ho123.1 _ (by simpa using hm_)).2 (Nat.le_trans (Nat.le_refl _) (ho126f d_ hd_))))
  have oz2 := (Nat.le_trans (Nat.le_trans hn1.ext.size hx3.size) hx118.size)
  refine LO_mks (i := 15) rfl (M_apprG (z := 6) (bytes := 80) (z0 := (.agg #[.int .i64 0, str [], .int .i64 0, str [], .int .i64 0, .slice none 0 0])) Tryd.underlying22 (by unfold elemRow; kernel_rfl) rfl rfl (by decide) rfl rfl (ho123.ext (hx127.trans hx130)) ho129.rows (Nat.le_trans (Nat.le_trans (Nat.le_trans hx121.size hx124.size) hx127.size) hx130.size) (by first | (simp; omega) | (simp; done) | omega) (fun h9 y9 hge x9 hx9 => (List.mem_append.1 hx9).elim (fun q => (hM.ext (Ext.then' ((((((hn1.ext.trans hx3).trans hx118).trans hx121).trans hx124).trans hx127).trans hx130) y9 hge oz2)).2 x9 q) (fun q => by rw [List.mem_singleton.1 q]; exact (ob2.only2 y9 oy2).1))) rfl rfl rfl ?_
  rintro v131 h47 ⟨ha132, ha132l⟩
  refine ⟨(hc4.ext (((((hx118.trans hx121).trans hx124).trans hx127).trans hx130).then' ha132.only ha132.ge hx118.size)), ?_⟩
  have me20 := (((hx118.trans hx121).trans hx124).trans hx127).trans hx130
  refine LH_take (i := 16) rfl (fun h_ hI_ => Y_nilCheck rfl) rfl rfl rfl (by kernel_rfl) (by kernel_rfl) (by kernel_rfl) (fun _ _ _ => by rintro ⟨_, _, h_, _⟩; cases h_) (hc4.ext (me20.then' ha132.only ha132.ge hx118.size)) ?_
  refine LH_take (i := 17) rfl (fun h_ hI_ => Y_fieldAddr (off := 0) (by kernel_rfl) rfl rfl) rfl rfl rfl (by kernel_rfl) (by kernel_rfl) (by kernel_rfl) (fun _ _ _ => by rintro ⟨_, _, h_, _⟩; cases h_) (hc4.ext (me20.then' ha132.only ha132.ge hx118.size)) ?_
  refine LH_one (i := 18) (by kernel_rfl) ?_
  refine LO_dos (i := 18) rfl (D_store (us := [v131]) (show _ = some 1 by kernel_rfl) rfl rfl (row_cells ha132.own.rows) (by intro u_ hu_; simp only [List.mem_cons, List.not_mem_nil, or_false] at hu_; rcases hu_ with rfl <;> first | rfl | exact row_cell1 ha132.own.rows) (hc.ext (((((((hn1.ext.trans hx3).trans hx118).trans hx121).trans hx124).trans hx127).trans hx130).then' ha132.only ha132.ge (Nat.le_trans (Nat.le_trans hn1.ext.size hx3.size) hx118.size))) (by simp)) rfl rfl ?_
  rintro h48 hp133
  have hc135 := (((((((hc4.ext hx118).ext hx121).ext hx124).ext hx127).ext hx130).only ha132.only (fun hb_ => Nat.lt_irrefl _ (Nat.lt_of_lt_of_le (Nat.lt_of_lt_of_le hk2.lt (Nat.le_trans hx3.size hx118.size)) (ha132.ge _ hb_)))).only hp133.only (ni_gt (Nat.lt_of_lt_of_le hc.lt (Nat.le_refl _))))
  refine ⟨hc135, ?_⟩
  have hk134 : Blk h48 c [v131] := hp133.blk
  refine LH_done (by kernel_rfl) ?_
  refine X_then ?_
  refine W_sub _ (tk1 4) ?_
  refine Wr ?_
  refine Av ?_
  refine L_nil (X_then (W_ret ?_))
  refine X_ret1 rfl rfl ?_
  have ob5 : rerq M k p m tg z dat = 0 := by unfold rerq; rw [if_neg e, if_neg sz]
  have of2 := ob2.only2 ha132.only oy2
  have hu9 := rows_noint hM
  have me21 := Nat.le_trans (Nat.le_trans hn1.ext.size hx3.size) hx118.size
  have me22 := (((hn1.ext.trans hx3).trans hx118).trans hx121).trans hx124
  have me23 := ((me22.trans hx127).trans hx130).then' ha132.only ha132.ge me21
  exact ⟨by rw [ob5], .inr ⟨ob5, (Only.trans (Only.trans (Only.trans (Only.trans (Only.trans (Only.trans (Only.trans (Only.trans (Only.trans (Only.refl _ _) hn1.ext (fun _ hb_ => by cases hb_)) hx3 (fun _ hb_ => by cases hb_)) hx118 (fun _ hb_ => by cases hb_)) hx121 (fun _ hb_ => by cases hb_)) hx124 (fun _ hb_ => by cases hb_)) hx127 (fun _ hb_ => by cases hb_)) hx130 (fun _ hb_ => by cases hb_)) ha132.only (fun b_ hb_ => .inr (Nat.le_trans me21 (ha132.ge b_ hb_)))) hp133.only (fun b_ hb_ => .inl (by rw [List.mem_singleton.1 hb_]; simp))), _, _, hk134, RowsO.low (rowsM_box ha132.own (by simp) (fun a q => (List.mem_append.1 q).elim (fun q => (hof a q).ext me23) (fun q => by rw [List.mem_singleton.1 q]; exact of2)) (hc.ext (((((((hn1.ext.trans hx3).trans hx118).trans hx121).trans hx124).trans hx127).trans hx130).then' ha132.only ha132.ge (Nat.le_trans (Nat.le_trans hn1.ext.size hx3.size) hx118.size))) hu9 hp133.only) oz2, of2.box (hc.ext (((((((hn1.ext.trans hx3).trans hx118).trans hx121).trans hx124).trans hx127).trans hx130).then' ha132.only ha132.ge (Nat.le_trans (Nat.le_trans hn1.ext.size hx3.size) hx118.size))) hu9.1 hp133.only⟩⟩
 refine LO_yld (i := 5) rfl (Y_ldblk Tryd.underlying22 rfl rfl (hc.ext ((hn1.ext.trans hx3).trans hx118)) rfl) rfl rfl rfl (hc4.ext hx118) ?_
 refine LH_one (i := 1) (by kernel_rfl) ?_
 refine LO_mks (i := 1) rfl (M_litr0 (S := memS) (cells := []) (E := 30) rfl rfl (fun _ => by kernel_rfl)) rfl rfl rfl ?_
 rintro v136 h49 ⟨ho137, hx138⟩
 refine ⟨(hc4.ext (hx118.trans hx138)), ?_⟩
 refine LH_one (i := 6) (by kernel_rfl) ?_
 refine LO_mks (i := 6) rfl (M_appe (z := 6) (bytes := 80) (z0 := (.agg #[.int .i64 0, str [], .int .i64 0, str [], .int .i64 0, .slice none 0 0])) Tryd.underlying22 (by unfold elemRow; kernel_rfl) rfl rfl (by decide) rfl rfl ho137 (hM.ext (((hn1.ext.trans hx3).trans hx118).trans hx138)) hx138.size (by first | (simp; omega) | (simp; done) | omega)) rfl rfl rfl ?_
 rintro v139 h50 ⟨ho140, hx141⟩
 refine ⟨(hc4.ext ((hx118.trans hx138).trans hx141)), ?_⟩
 refine LH_one (i := 12) (by kernel_rfl) ?_
 refine LO_mks (i := 12) rfl (M_appeB Tryd.underlying28 (by unfold elemRow; kernel_rfl) rfl rfl (ho117.ext (hx138.trans hx141)) (hd.ext ((((hn1.ext.trans hx3).trans hx118).trans hx138).trans hx141)) (Nat.le_trans (Nat.le_trans hx118.size hx138.size) hx141.size) (by first | omega | (simp; omega))) rfl rfl rfl ?_
 rintro v142 h51 ⟨ho143, hx144, ho143f⟩
 refine ⟨(hc4.ext (((hx118.trans hx138).trans hx141).trans hx144)), ?_⟩
 refine LH_one (i := 13) (by kernel_rfl) ?_
 refine LO_yld (i := 13) rfl (Y_build (v := .agg #[.int .i64 (k), str p, .int .i64 (m), str tg, .int .i64 (z), v142]) (pv := [(0, .agg #[.int .i64 (k), str p, .int .i64 (m), str tg, .int .i64 (z)]), (1, v142)]) (evp (is := [0, 1]) (os := [.tmp 28, .tmp 32]) (vs := [.agg #[.int .i64 (k), str p, .int .i64 (m), str tg, .int .i64 (z)], v142]) rfl rfl) (fun _ => by obtain ⟨_, _, _, hf1_⟩ := slice_formO ho143.bytes; rw [hf1_]; kernel_rfl)) rfl rfl rfl (hc4.ext (((hx118.trans hx138).trans hx141).trans hx144)) ?_
 refine LH_one (i := 14) (by kernel_rfl) ?_
 refine LO_mks (i := 14) rfl (M_litr (S := memS) (l := ([⟨k, p, m, tg, z, v142, dat⟩] : List Mem)) (cells := [.int .i64 (k), str p, .int .i64 (m), str tg, .int .i64 (z), v142]) (pv := [(0, .agg #[.int .i64 (k), str p, .int .i64 (m), str tg, .int .i64 (z), v142])]) (E := 30) (evp (is := [0]) (os := [.tmp 33]) (vs := [.agg #[.int .i64 (k), str p, .int .i64 (m), str tg, .int .i64 (z), v142]]) rfl rfl) rfl rfl (fun _ => by kernel_rfl) (by simp only [List.mem_cons, List.not_mem_nil, or_false, forall_eq_or_imp, forall_eq]; exact ho143.bytes)) rfl rfl rfl ?_
 rintro v145 h52 ⟨ho146, hx147⟩
 refine ⟨(hc4.ext ((((hx118.trans hx138).trans hx141).trans hx144).trans hx147)), ?_⟩
 refine LH_one (i := 15) (by kernel_rfl) ?_
 have ob2 : Off h52 v142 dat := Off.of (ho143.ext hx147)
 have oy2 := (fun d_ hd_ (hm_ : d_ ∈ (blockOf v139).toList) => Nat.lt_irrefl _ (Nat.lt_of_lt_of_le (Own.lt ho140.1 _ (by simpa using hm_)).2 (Nat.le_trans (Nat.le_refl _) (ho143f d_ hd_))))
 have oz2 := (Nat.le_trans (Nat.le_trans hn1.ext.size hx3.size) hx118.size)
 refine LO_mks (i := 15) rfl (M_apprG (z := 6) (bytes := 80) (z0 := (.agg #[.int .i64 0, str [], .int .i64 0, str [], .int .i64 0, .slice none 0 0])) Tryd.underlying22 (by unfold elemRow; kernel_rfl) rfl rfl (by decide) rfl rfl (ho140.ext (hx144.trans hx147)) ho146.rows (Nat.le_trans (Nat.le_trans (Nat.le_trans hx138.size hx141.size) hx144.size) hx147.size) (by first | (simp; omega) | (simp; done) | omega) (fun h9 y9 hge x9 hx9 => (List.mem_append.1 hx9).elim (fun q => (hM.ext (Ext.then' ((((((hn1.ext.trans hx3).trans hx118).trans hx138).trans hx141).trans hx144).trans hx147) y9 hge oz2)).2 x9 q) (fun q => by rw [List.mem_singleton.1 q]; exact (ob2.only2 y9 oy2).1))) rfl rfl rfl ?_
 rintro v148 h53 ⟨ha149, ha149l⟩
 refine ⟨(hc4.ext (((((hx118.trans hx138).trans hx141).trans hx144).trans hx147).then' ha149.only ha149.ge hx118.size)), ?_⟩
 have me24 := (((hx118.trans hx138).trans hx141).trans hx144).trans hx147
 refine LH_take (i := 16) rfl (fun h_ hI_ => Y_nilCheck rfl) rfl rfl rfl (by kernel_rfl) (by kernel_rfl) (by kernel_rfl) (fun _ _ _ => by rintro ⟨_, _, h_, _⟩; cases h_) (hc4.ext (me24.then' ha149.only ha149.ge hx118.size)) ?_
 refine LH_take (i := 17) rfl (fun h_ hI_ => Y_fieldAddr (off := 0) (by kernel_rfl) rfl rfl) rfl rfl rfl (by kernel_rfl) (by kernel_rfl) (by kernel_rfl) (fun _ _ _ => by rintro ⟨_, _, h_, _⟩; cases h_) (hc4.ext (me24.then' ha149.only ha149.ge hx118.size)) ?_
 refine LH_one (i := 18) (by kernel_rfl) ?_
 refine LO_dos (i := 18) rfl (D_store (us := [v148]) (show _ = some 1 by kernel_rfl) rfl rfl (row_cells ha149.own.rows) (by intro u_ hu_; simp only [List.mem_cons, List.not_mem_nil, or_false] at hu_; rcases hu_ with rfl <;> first | rfl | exact row_cell1 ha149.own.rows) (hc.ext (((((((hn1.ext.trans hx3).trans hx118).trans hx138).trans hx141).trans hx144).trans hx147).then' ha149.only ha149.ge (Nat.le_trans (Nat.le_trans hn1.ext.size hx3.size) hx118.size))) (by simp)) rfl rfl ?_
 rintro h54 hp150
 have hc152 := (((((((hc4.ext hx118).ext hx138).ext hx141).ext hx144).ext hx147).only ha149.only (fun hb_ => Nat.lt_irrefl _ (Nat.lt_of_lt_of_le (Nat.lt_of_lt_of_le hk2.lt (Nat.le_trans hx3.size hx118.size)) (ha149.ge _ hb_)))).only hp150.only (ni_gt (Nat.lt_of_lt_of_le hc.lt (Nat.le_refl _))))
 refine ⟨hc152, ?_⟩
 have hk151 : Blk h54 c [v148] := hp150.blk
 refine LH_done (by kernel_rfl) ?_
 refine X_then ?_
 refine W_sub _ (tk1 4) ?_
 refine Wr ?_
 refine Av ?_
 refine L_nil (X_then (W_ret ?_))
 refine X_ret1 rfl rfl ?_
 have ob5 : rerq M k p m tg z dat = 0 := by unfold rerq; rw [if_neg e, if_neg sz]
 have of2 := ob2.only2 ha149.only oy2
 have hu9 := rows_noint hM
 have me25 := Nat.le_trans (Nat.le_trans hn1.ext.size hx3.size) hx118.size
 have me26 := (((hn1.ext.trans hx3).trans hx118).trans hx138).trans hx141
 have me27 := ((me26.trans hx144).trans hx147).then' ha149.only ha149.ge me25
 exact ⟨by rw [ob5], .inr ⟨ob5, (Only.trans (Only.trans (Only.trans (Only.trans (Only.trans (Only.trans (Only.trans (Only.trans (Only.trans (Only.refl _ _) hn1.ext (fun _ hb_ => by cases hb_)) hx3 (fun _ hb_ => by cases hb_)) hx118 (fun _ hb_ => by cases hb_)) hx138 (fun _ hb_ => by cases hb_)) hx141 (fun _ hb_ => by cases hb_)) hx144 (fun _ hb_ => by cases hb_)) hx147 (fun _ hb_ => by cases hb_)) ha149.only (fun b_ hb_ => .inr (Nat.le_trans me25 (ha149.ge b_ hb_)))) hp150.only (fun b_ hb_ => .inl (by rw [List.mem_singleton.1 hb_]; simp))), _, _, hk151, RowsO.low (rowsM_box ha149.own (by simp) (fun a q => (List.mem_append.1 q).elim (fun q => (hof a q).ext me27) (fun q => by rw [List.mem_singleton.1 q]; exact of2)) (hc.ext (((((((hn1.ext.trans hx3).trans hx118).trans hx138).trans hx141).trans hx144).trans hx147).then' ha149.only ha149.ge (Nat.le_trans (Nat.le_trans hn1.ext.size hx3.size) hx118.size))) hu9 hp150.only) oz2, of2.box (hc.ext (((((((hn1.ext.trans hx3).trans hx118).trans hx138).trans hx141).trans hx144).trans hx147).then' ha149.only ha149.ge (Nat.le_trans (Nat.le_trans hn1.ext.size hx3.size) hx118.size))) hu9.1 hp150.only⟩⟩
end Go.Xp
