/- Layer 10 (fit): the reference, and the laws' helpers. -/
import Derived.Test.YtmmpnieglihhnaaGreatDoorFit
import Derived.Test.YtmmpnieglihhnaaGreatDoorOf
set_option linter.unusedSimpArgs false
set_option linter.unusedVariables false
set_option linter.unusedSectionVars false
namespace Go.Xp
open Go.Proofs

set_option maxRecDepth 100000 in
theorem ref10_target (h : Heap) (k : Int) (p : List UInt8) (m : Int) (tg : List UInt8) (z : Int) (ht : tg.length ≤ 140737488355328) : Cal Tryz.prog 71 #[.agg #[.int .i64 (k), str p, .int .i64 (m), str tg, .int .i64 (z)]] h (fun v h' => v = .int .i64 (ftarget k tg) ∧ Ext h h') := by
  refine Cal_enter (args := [.agg #[.int .i64 (k), str p, .int .i64 (m), str tg, .int .i64 (z)]]) Tryz.func71 rfl rfl rfl (fun σ => ?_)
  refine W_seq ?_
  refine W_region ?_
  refine L_mks (M_box rfl) rfl rfl rfl ?_
  rintro _ h1 ⟨rfl, hn1⟩
  have hk2 : Blk h1 h.size [.int .i64 (k), str p, .int .i64 (m), str tg, .int .i64 (z)] := hn1.blk
  refine L_yld (Y_assign rfl) rfl rfl rfl ?_
  refine L_nil ?_
  refine X_then ?_
  refine W_sub _ (.cons (i := 2) rfl (.cons (i := 1) rfl (.nil _))) ?_
  refine W_seq ?_
  refine W_seq ?_
  refine W_region ?_
  refine L_yld (Y_fieldAddr (off := 0) (by kernel_rfl) rfl rfl) rfl rfl rfl ?_
  refine L_yld (Y_ldblk Tryz.underlying3 rfl rfl hk2 rfl) rfl rfl rfl ?_
  refine L_nil ?_
  refine X_then ?_
  refine W_sub _ (.cons (i := 5) rfl (.cons (i := 2) rfl (.cons (i := 1) rfl (.nil _)))) ?_
  refine W_block ?_
  refine W_seq ?_
  refine W_region ?_
  refine L_yld (Y_eql rfl rfl) rfl rfl rfl ?_
  refine L_yld (Y_assign rfl) rfl rfl rfl ?_
  refine L_nil ?_
  refine X_then ?_
  refine W_sub _ (.cons (i := 9) rfl (.cons (i := 5) rfl (.cons (i := 2) rfl (.cons (i := 1) rfl (.nil _))))) ?_
  refine W_splitd rfl (fun a => ?_) (fun a => ?_)
  · refine W_seq ?_
    refine W_seq ?_
    refine W_region ?_
    refine L_yld (Y_fieldAddr (off := 3) (by kernel_rfl) rfl rfl) rfl rfl rfl ?_
    refine L_yld (Y_ldblk Tryz.underlying9 rfl rfl hk2 rfl) rfl rfl rfl ?_
    refine L_yld (Y_slen Tryz.underlying9 rfl) rfl rfl rfl ?_
    refine L_yld (Y_gtr rfl rfl) rfl rfl rfl ?_
    refine L_nil ?_
    refine X_then ?_
    refine W_sub _ (.cons (i := 14) rfl (.cons (i := 2) rfl (.cons (i := 1) rfl (.nil _)))) ?_
    refine W_splitd rfl (fun g => ?_) (fun g => ?_)
    · refine W_seq ?_
      refine W_region ?_
      refine L_yld (Y_assign rfl) rfl rfl rfl ?_
      refine L_nil ?_
      refine X_then ?_
      refine W_sub _ (.cons (i := 2) rfl (.cons (i := 1) rfl (.nil _))) ?_
      refine W_ret ?_
      refine X_then_ret ?_
      refine X_block_ret ?_
      refine X_then_ret ?_
      refine X_ret1 rfl rfl ?_
      have w9 : ¬ k = 3 := by omega
      exact ⟨by unfold ftarget; rw [if_neg w9, if_pos a, rerr_path (by simp) (by simp), if_pos (by omega)], hn1.ext⟩
    · refine W_skip ?_
      refine X_then ?_
      refine W_sub _ (.cons (i := 2) rfl (.cons (i := 1) rfl (.nil _))) ?_
      refine W_seq ?_
      refine W_seq ?_
      refine W_region ?_
      refine L_yld (Y_fieldAddr (off := 3) (by kernel_rfl) rfl rfl) rfl rfl rfl ?_
      refine L_yld (Y_ldblk Tryz.underlying9 rfl rfl hk2 rfl) rfl rfl rfl ?_
      refine L_yld (Y_seql rfl rfl) rfl rfl rfl ?_
      refine L_nil ?_
      refine X_then ?_
      refine W_sub _ (.cons (i := 17) rfl (.cons (i := 2) rfl (.cons (i := 1) rfl (.nil _)))) ?_
      refine W_splitd rfl (fun n => ?_) (fun n => ?_)
      · refine W_seq ?_
        refine W_region ?_
        refine L_yld (Y_assign rfl) rfl rfl rfl ?_
        refine L_nil ?_
        refine X_then ?_
        refine W_sub _ (.cons (i := 2) rfl (.cons (i := 1) rfl (.nil _))) ?_
        refine W_ret ?_
        refine X_then_ret ?_
        refine X_block_ret ?_
        refine X_then_ret ?_
        refine X_ret1 rfl rfl ?_
        have w9 : ¬ k = 3 := by omega
        exact ⟨by unfold ftarget; rw [if_neg w9, if_pos a, rerr_path (by simp) (by simp), if_neg (by omega), if_pos (.inl n)], hn1.ext⟩
      · refine W_skip ?_
        refine X_then ?_
        refine W_sub _ (.cons (i := 2) rfl (.cons (i := 1) rfl (.nil _))) ?_
        refine W_seq ?_
        refine W_region ?_
        refine L_yld (Y_assign rfl) rfl rfl rfl ?_
        refine L_nil ?_
        refine X_then ?_
        refine W_block ?_
        refine W_loop (S := Nat) (fun i => [(1, .pointer (some ⟨h.size, 0, none⟩)), (3, .int .i64 ((i : Int)))]) (fun i h' => i ≤ tg.length ∧ (∀ k, k < i → ¬ byt tg k = 0) ∧ Ext h1 h') (fun i => tg.length - i) 0 (.cons (i := 1) rfl (.cons (i := 3) rfl (.nil _))) ?_ ?_
        · exact ⟨by omega, (fun k hk => absurd hk (Nat.not_lt_zero _)), Ext.refl _⟩
        rintro i h2 ⟨hi, hd, hx⟩
        show W _ _ _ _ _ [(1, .pointer (some ⟨h.size, 0, none⟩)), (3, .int .i64 ((i : Int)))] _
        refine W_seq ?_
        refine W_seq ?_
        refine W_region ?_
        refine L_yld (Y_move rfl) rfl rfl rfl ?_
        refine L_yld (Y_fieldAddr (off := 3) (by kernel_rfl) rfl rfl) rfl rfl rfl ?_
        refine L_yld (Y_ldblk Tryz.underlying9 rfl rfl (hk2.ext hx) rfl) rfl rfl rfl ?_
        refine L_yld (Y_slen Tryz.underlying9 rfl) rfl rfl rfl ?_
        refine L_yld (Y_lss rfl rfl) rfl rfl rfl ?_
        refine L_nil ?_
        refine X_then ?_
        refine W_sub _ (.cons (i := 22) rfl (.cons (i := 1) rfl (.cons (i := 3) rfl (.nil _)))) ?_
        refine W_splitd rfl (fun hl => ?_) (fun hl => ?_)
        · refine W_skip ?_
          refine X_then ?_
          refine W_sub _ (.cons (i := 1) rfl (.cons (i := 3) rfl (.nil _))) ?_
          refine W_seq ?_
          refine W_block ?_
          refine W_seq ?_
          refine W_region ?_
          refine L_yld (Y_fieldAddr (off := 3) (by kernel_rfl) rfl rfl) rfl rfl rfl ?_
          refine L_yld (Y_ldblk Tryz.underlying9 rfl rfl (hk2.ext hx) rfl) rfl rfl rfl ?_
          refine L_yld (Y_move rfl) rfl rfl rfl ?_
          refine L_yld (Y_sidx Tryz.underlying9 rfl rfl (by omega) (by omega)) rfl rfl rfl ?_
          refine L_yld (Y_eql rfl rfl) rfl rfl rfl ?_
          refine L_nil ?_
          refine X_then ?_
          refine W_sub _ (.cons (i := 29) rfl (.cons (i := 1) rfl (.cons (i := 3) rfl (.nil _)))) ?_
          refine W_splitd rfl (fun y => ?_) (fun y => ?_)
          · refine W_seq ?_
            refine W_region ?_
            refine L_yld (Y_assign rfl) rfl rfl rfl ?_
            refine L_nil ?_
            refine X_then ?_
            refine W_sub _ (.cons (i := 2) rfl (.cons (i := 1) rfl (.cons (i := 3) rfl (.nil _)))) ?_
            refine W_ret ?_
            refine X_block_ret ?_
            refine X_then_ret ?_
            refine X_then_ret ?_
            refine X_block_ret ?_
            refine X_block_ret ?_
            refine X_then_ret ?_
            refine X_ret1 rfl rfl ?_
            have w9 : ¬ k = 3 := by omega
            exact ⟨by unfold ftarget; rw [if_neg w9, if_pos a, rerr_path (by simp) (by simp), if_neg (by omega), if_pos (.inr (mem0_iff.2 ⟨i, by omega, by rw [Int.toNat_natCast] at y; exact y⟩))], (hn1.ext.trans hx)⟩
          · refine W_skip ?_
            refine X_block ?_
            refine X_then ?_
            refine W_sub _ (.cons (i := 1) rfl (.cons (i := 3) rfl (.nil _))) ?_
            refine W_region ?_
            refine L_yld (Y_move rfl) rfl rfl rfl ?_
            refine L_yld (Y_add rfl rfl (by omega) (by omega)) rfl rfl rfl ?_
            refine L_yld (Y_assign rfl) rfl rfl rfl ?_
            refine L_nil ?_
            refine X_loop (i + 1) (.cons (i := 1) rfl (.cons (i := 3) rfl (.nil _))) ?_ ?_
            · exact ⟨by omega, step_ne hd (by rw [Int.toNat_natCast] at y; omega), hx⟩
            · (try dsimp only)
              omega
        · refine W_exit ?_
          refine X_then_exit ?_
          refine X_then_exit ?_
          refine X_block_hit ?_
          refine X_block ?_
          refine X_then ?_
          refine W_sub _ (.nil _) ?_
          refine W_seq ?_
          refine W_region ?_
          refine L_yld (Y_assign rfl) rfl rfl rfl ?_
          refine L_nil ?_
          refine X_then ?_
          refine W_ret ?_
          refine X_ret1 rfl rfl ?_
          have w9 : ¬ k = 3 := by omega
          exact ⟨by unfold ftarget; rw [if_neg w9, if_pos a, rerr_path (by simp) (by simp), if_neg (by omega), if_neg (fun e => e.elim n (fun e => by obtain ⟨q, q1, q2⟩ := mem0_iff.1 e; exact hd q (by omega) q2))], (hn1.ext.trans hx)⟩
  · refine W_seq ?_
    refine W_region ?_
    refine L_yld (Y_eql rfl rfl) rfl rfl rfl ?_
    refine L_yld (Y_assign rfl) rfl rfl rfl ?_
    refine L_nil ?_
    refine X_then ?_
    refine W_sub _ (.cons (i := 30) rfl (.cons (i := 2) rfl (.cons (i := 1) rfl (.nil _)))) ?_
    refine W_splitd rfl (fun b => ?_) (fun b => ?_)
    · refine W_seq ?_
      refine W_region ?_
      refine L_yld (Y_fieldAddr (off := 3) (by kernel_rfl) rfl rfl) rfl rfl rfl ?_
      refine L_yld (Y_ldblk Tryz.underlying9 rfl rfl hk2 rfl) rfl rfl rfl ?_
      refine L_call (E_call (by kernel_rfl) rfl) (ref08_Check _ tg) rfl rfl rfl ?_
      rintro _ h1 ⟨rfl, rfl⟩
      refine L_yld (Y_assign rfl) rfl rfl rfl ?_
      refine L_nil ?_
      refine X_then ?_
      refine W_sub _ (.cons (i := 2) rfl (.nil _)) ?_
      refine W_ret ?_
      refine X_block_ret ?_
      refine X_then_ret ?_
      refine X_ret1 rfl rfl ?_
      exact ⟨by unfold ftarget; rw [if_pos b], hn1.ext⟩
    · refine W_seq ?_
      refine W_region ?_
      refine L_yld (Y_fieldAddr (off := 3) (by kernel_rfl) rfl rfl) rfl rfl rfl ?_
      refine L_yld (Y_ldblk Tryz.underlying9 rfl rfl hk2 rfl) rfl rfl rfl ?_
      refine L_yld (Y_sneq rfl rfl) rfl rfl rfl ?_
      refine L_nil ?_
      refine X_then ?_
      refine W_sub _ (.cons (i := 8) rfl (.cons (i := 2) rfl (.nil _))) ?_
      refine W_splitd rfl (fun c => ?_) (fun c => ?_)
      · refine W_seq ?_
        refine W_region ?_
        refine L_yld (Y_assign rfl) rfl rfl rfl ?_
        refine L_nil ?_
        refine X_then ?_
        refine W_sub _ (.cons (i := 2) rfl (.nil _)) ?_
        refine W_ret ?_
        refine X_block_ret ?_
        refine X_then_ret ?_
        refine X_ret1 rfl rfl ?_
        exact ⟨by unfold ftarget; rw [if_neg b, if_neg a, if_pos c], hn1.ext⟩
      · refine W_skip ?_
        refine X_block ?_
        refine X_then ?_
        refine W_sub _ (.cons (i := 2) rfl (.nil _)) ?_
        refine W_seq ?_
        refine W_region ?_
        refine L_yld (Y_assign rfl) rfl rfl rfl ?_
        refine L_nil ?_
        refine X_then ?_
        refine W_ret ?_
        refine X_ret1 rfl rfl ?_
        exact ⟨by unfold ftarget; rw [if_neg b, if_neg a, if_neg c], hn1.ext⟩
set_option maxRecDepth 100000 in
theorem ref10_Check (h : Heap) (k : Int) (p : List UInt8) (m : Int) (tg : List UInt8) (z : Int) (hp : p.length ≤ 140737488355328) (ht : tg.length ≤ 140737488355328) : Cal Tryz.prog 40 #[.agg #[.int .i64 (k), str p, .int .i64 (m), str tg, .int .i64 (z)]] h (fun v h' => v = .int .i64 (fcheck k p m tg z) ∧ Ext h h') := by
  refine Cal_enter (args := [.agg #[.int .i64 (k), str p, .int .i64 (m), str tg, .int .i64 (z)]]) Tryz.func40 rfl rfl rfl (fun σ => ?_)
  refine W_seq ?_
  refine W_region ?_
  refine L_mks (M_box rfl) rfl rfl rfl ?_
  rintro _ h1 ⟨rfl, hn1⟩
  have hk2 : Blk h1 h.size [.int .i64 (k), str p, .int .i64 (m), str tg, .int .i64 (z)] := hn1.blk
  refine L_yld (Y_assign rfl) rfl rfl rfl ?_
  refine L_nil ?_
  refine X_then ?_
  refine W_sub _ (.cons (i := 2) rfl (.cons (i := 1) rfl (.nil _))) ?_
  refine W_seq ?_
  refine W_cut (S := Unit) (fun _ => [(11, .bool (decide ((k < 0) ∨ (3 < k)))), (2, .int .i64 0), (1, .pointer (some ⟨h.size, 0, none⟩))]) (fun _ h' => h' = h1) ?_ ?_
  · refine W_region ?_
    refine L_yld (Y_fieldAddr (off := 0) (by kernel_rfl) rfl rfl) rfl rfl rfl ?_
    refine L_yld (Y_ldblk Tryz.underlying3 rfl rfl hk2 rfl) rfl rfl rfl ?_
    refine L_yld (Y_lss rfl rfl) rfl rfl rfl ?_
    refine L_yld (Y_move rfl) rfl rfl rfl ?_
    refine L_splitd (d := 7) rfl (fun c3 => ?_) (fun c3 => ?_)
    · refine L_skip rfl rfl rfl ?_
      refine L_skip rfl rfl rfl ?_
      refine L_skip rfl rfl rfl ?_
      refine L_yld (Y_pick_t rfl rfl) rfl rfl rfl ?_
      refine L_nil ?_
      exact X_cut () (.cons (i := 11) (lkb rfl (by simp only [eq_true c3, true_and, and_true, false_and, and_false, true_or, or_true, false_or, or_false, not_true_eq_false, not_false_eq_true, decide_true, decide_false, Bool.true_eq_false, Bool.false_eq_true, eq_self, Bool.decide_eq_true])) (.cons (i := 2) rfl (.cons (i := 1) rfl (.nil _)))) rfl
    · refine L_yld (Y_fieldAddr (off := 0) (by kernel_rfl) rfl rfl) rfl rfl rfl ?_
      refine L_yld (Y_ldblk Tryz.underlying3 rfl rfl hk2 rfl) rfl rfl rfl ?_
      refine L_yld (Y_gtr rfl rfl) rfl rfl rfl ?_
      refine L_yld (Y_pick_f rfl rfl) rfl rfl rfl ?_
      refine L_nil ?_
      exact X_cut () (.cons (i := 11) (lkb rfl (by simp only [eq_false c3, true_and, and_true, false_and, and_false, true_or, or_true, false_or, or_false, not_true_eq_false, not_false_eq_true, decide_true, decide_false, Bool.true_eq_false, Bool.false_eq_true, eq_self, Bool.decide_eq_true])) (.cons (i := 2) rfl (.cons (i := 1) rfl (.nil _)))) rfl
  rintro _ h1 rfl
  show W _ _ _ _ _ [(11, .bool (decide ((k < 0) ∨ (3 < k)))), (2, .int .i64 0), (1, .pointer (some ⟨h.size, 0, none⟩))] _
  refine W_splitd rfl (fun a => ?_) (fun a => ?_)
  · refine W_seq ?_
    refine W_region ?_
    refine L_yld (Y_assign rfl) rfl rfl rfl ?_
    refine L_nil ?_
    refine X_then ?_
    refine W_sub _ (.cons (i := 2) rfl (.cons (i := 1) rfl (.nil _))) ?_
    refine W_ret ?_
    refine X_then_ret ?_
    refine X_ret1 rfl rfl ?_
    exact ⟨by unfold fcheck; rw [if_pos (by omega)], hn1.ext⟩
  · refine W_skip ?_
    refine X_then ?_
    refine W_sub _ (.cons (i := 2) rfl (.cons (i := 1) rfl (.nil _))) ?_
    refine W_seq ?_
    refine W_region ?_
    refine L_yld (Y_fieldAddr (off := 1) (by kernel_rfl) rfl rfl) rfl rfl rfl ?_
    refine L_yld (Y_ldblk Tryz.underlying9 rfl rfl hk2 rfl) rfl rfl rfl ?_
    refine L_call (E_call (by kernel_rfl) rfl) (ref08_Check _ p) rfl rfl rfl ?_
    rintro _ h1 ⟨rfl, rfl⟩
    refine L_yld (Y_assign rfl) rfl rfl rfl ?_
    refine L_nil ?_
    refine X_then ?_
    refine W_sub _ (.cons (i := 3) rfl (.cons (i := 2) rfl (.cons (i := 1) rfl (.nil _)))) ?_
    refine W_seq ?_
    refine W_seq ?_
    refine W_region ?_
    refine L_yld (Y_move rfl) rfl rfl rfl ?_
    refine L_yld (Y_neq rfl rfl) rfl rfl rfl ?_
    refine L_nil ?_
    refine X_then ?_
    refine W_sub _ (.cons (i := 16) rfl (.cons (i := 3) rfl (.cons (i := 2) rfl (.cons (i := 1) rfl (.nil _))))) ?_
    refine W_splitd rfl (fun b => ?_) (fun b => ?_)
    · refine W_seq ?_
      refine W_region ?_
      refine L_yld (Y_move rfl) rfl rfl rfl ?_
      refine L_yld (Y_assign rfl) rfl rfl rfl ?_
      refine L_nil ?_
      refine X_then ?_
      refine W_sub _ (.cons (i := 2) rfl (.cons (i := 3) rfl (.cons (i := 1) rfl (.nil _)))) ?_
      refine W_ret ?_
      refine X_then_ret ?_
      refine X_ret1 rfl rfl ?_
      exact ⟨by unfold fcheck; rw [if_neg (by omega), if_pos b], hn1.ext⟩
    · refine W_skip ?_
      refine X_then ?_
      refine W_sub _ (.cons (i := 3) rfl (.cons (i := 2) rfl (.cons (i := 1) rfl (.nil _)))) ?_
      refine W_seq ?_
      refine W_cut (S := Unit) (fun _ => [(35, .bool (decide (((m < 0) ∨ (4095 < m)) ∨ ((k = 2) ∧ (¬ m = 0))))), (3, .int .i64 (pcheck p)), (2, .int .i64 0), (1, .pointer (some ⟨h.size, 0, none⟩))]) (fun _ h' => h' = h1) ?_ ?_
      · refine W_region ?_
        refine L_yld (Y_fieldAddr (off := 2) (by kernel_rfl) rfl rfl) rfl rfl rfl ?_
        refine L_yld (Y_ldblk Tryz.underlying3 rfl rfl hk2 rfl) rfl rfl rfl ?_
        refine L_yld (Y_lss rfl rfl) rfl rfl rfl ?_
        refine L_yld (Y_move rfl) rfl rfl rfl ?_
        refine L_splitd (d := 21) rfl (fun c4 => ?_) (fun c4 => ?_)
        · refine L_skip rfl rfl rfl ?_
          refine L_skip rfl rfl rfl ?_
          refine L_skip rfl rfl rfl ?_
          refine L_yld (Y_pick_t rfl rfl) rfl rfl rfl ?_
          refine L_yld (Y_move rfl) rfl rfl rfl ?_
          refine L_skip rfl rfl rfl ?_
          refine L_skip rfl rfl rfl ?_
          refine L_skip rfl rfl rfl ?_
          refine L_skip rfl rfl rfl ?_
          refine L_skip rfl rfl rfl ?_
          refine L_skip rfl rfl rfl ?_
          refine L_skip rfl rfl rfl ?_
          refine L_skip rfl rfl rfl ?_
          refine L_yld (Y_pick_t rfl rfl) rfl rfl rfl ?_
          refine L_nil ?_
          exact X_cut () (.cons (i := 35) (lkb rfl (by simp only [eq_true c4, true_and, and_true, false_and, and_false, true_or, or_true, false_or, or_false, not_true_eq_false, not_false_eq_true, decide_true, decide_false, Bool.true_eq_false, Bool.false_eq_true, eq_self, Bool.decide_eq_true])) (.cons (i := 3) rfl (.cons (i := 2) rfl (.cons (i := 1) rfl (.nil _))))) rfl
        · refine L_yld (Y_fieldAddr (off := 2) (by kernel_rfl) rfl rfl) rfl rfl rfl ?_
          refine L_yld (Y_ldblk Tryz.underlying3 rfl rfl hk2 rfl) rfl rfl rfl ?_
          refine L_yld (Y_gtr rfl rfl) rfl rfl rfl ?_
          refine L_yld (Y_pick_f rfl rfl) rfl rfl rfl ?_
          refine L_yld (Y_move rfl) rfl rfl rfl ?_
          refine L_splitd (d := 26) rfl (fun c5 => ?_) (fun c5 => ?_)
          · refine L_skip rfl rfl rfl ?_
            refine L_skip rfl rfl rfl ?_
            refine L_skip rfl rfl rfl ?_
            refine L_skip rfl rfl rfl ?_
            refine L_skip rfl rfl rfl ?_
            refine L_skip rfl rfl rfl ?_
            refine L_skip rfl rfl rfl ?_
            refine L_skip rfl rfl rfl ?_
            refine L_yld (Y_pick_t rfl rfl) rfl rfl rfl ?_
            refine L_nil ?_
            exact X_cut () (.cons (i := 35) (lkb rfl (by simp only [eq_false c4, eq_true c5, true_and, and_true, false_and, and_false, true_or, or_true, false_or, or_false, not_true_eq_false, not_false_eq_true, decide_true, decide_false, Bool.true_eq_false, Bool.false_eq_true, eq_self, Bool.decide_eq_true])) (.cons (i := 3) rfl (.cons (i := 2) rfl (.cons (i := 1) rfl (.nil _))))) rfl
          · refine L_yld (Y_fieldAddr (off := 0) (by kernel_rfl) rfl rfl) rfl rfl rfl ?_
            refine L_yld (Y_ldblk Tryz.underlying3 rfl rfl hk2 rfl) rfl rfl rfl ?_
            refine L_yld (Y_eql rfl rfl) rfl rfl rfl ?_
            refine L_yld (Y_move rfl) rfl rfl rfl ?_
            refine L_splitd (d := 30) rfl (fun c6 => ?_) (fun c6 => ?_)
            · refine L_yld (Y_fieldAddr (off := 2) (by kernel_rfl) rfl rfl) rfl rfl rfl ?_
              refine L_yld (Y_ldblk Tryz.underlying3 rfl rfl hk2 rfl) rfl rfl rfl ?_
              refine L_yld (Y_neq rfl rfl) rfl rfl rfl ?_
              refine L_yld (Y_pick_t rfl rfl) rfl rfl rfl ?_
              refine L_yld (Y_pick_f rfl rfl) rfl rfl rfl ?_
              refine L_nil ?_
              exact X_cut () (.cons (i := 35) (lkb rfl (by simp only [eq_false c4, eq_false c5, eq_true c6, true_and, and_true, false_and, and_false, true_or, or_true, false_or, or_false, not_true_eq_false, not_false_eq_true, decide_true, decide_false, Bool.true_eq_false, Bool.false_eq_true, eq_self, Bool.decide_eq_true])) (.cons (i := 3) rfl (.cons (i := 2) rfl (.cons (i := 1) rfl (.nil _))))) rfl
            · refine L_skip rfl rfl rfl ?_
              refine L_skip rfl rfl rfl ?_
              refine L_skip rfl rfl rfl ?_
              refine L_yld (Y_pick_f rfl rfl) rfl rfl rfl ?_
              refine L_yld (Y_pick_f rfl rfl) rfl rfl rfl ?_
              refine L_nil ?_
              exact X_cut () (.cons (i := 35) (lkb rfl (by simp only [eq_false c4, eq_false c5, eq_false c6, true_and, and_true, false_and, and_false, true_or, or_true, false_or, or_false, not_true_eq_false, not_false_eq_true, decide_true, decide_false, Bool.true_eq_false, Bool.false_eq_true, eq_self, Bool.decide_eq_true])) (.cons (i := 3) rfl (.cons (i := 2) rfl (.cons (i := 1) rfl (.nil _))))) rfl
      rintro _ h1 rfl
      show W _ _ _ _ _ [(35, .bool (decide (((m < 0) ∨ (4095 < m)) ∨ ((k = 2) ∧ (¬ m = 0))))), (3, .int .i64 (pcheck p)), (2, .int .i64 0), (1, .pointer (some ⟨h.size, 0, none⟩))] _
      refine W_splitd rfl (fun c => ?_) (fun c => ?_)
      · refine W_seq ?_
        refine W_region ?_
        refine L_yld (Y_assign rfl) rfl rfl rfl ?_
        refine L_nil ?_
        refine X_then ?_
        refine W_sub _ (.cons (i := 2) rfl (.cons (i := 3) rfl (.cons (i := 1) rfl (.nil _)))) ?_
        refine W_ret ?_
        refine X_then_ret ?_
        refine X_ret1 rfl rfl ?_
        exact ⟨by unfold fcheck; rw [if_neg (by omega), if_neg b, if_pos c], hn1.ext⟩
      · refine W_skip ?_
        refine X_then ?_
        refine W_sub _ (.cons (i := 3) rfl (.cons (i := 2) rfl (.cons (i := 1) rfl (.nil _)))) ?_
        refine W_seq ?_
        refine W_region ?_
        refine L_yld (Y_ldbox (us := [.int .i64 (k), str p, .int .i64 (m), str tg, .int .i64 (z)]) Tryz.underlying23 rfl (show _ = some 5 by kernel_rfl) rfl hk2 rfl) rfl rfl rfl ?_
        refine L_call (E_call (by kernel_rfl) rfl) (ref10_target _ k p m tg z (by first | omega | rfl | (simp <;> omega))) rfl rfl rfl ?_
        rintro _ h2 ⟨rfl, hx7⟩
        refine L_yld (Y_assign rfl) rfl rfl rfl ?_
        refine L_nil ?_
        refine X_then ?_
        refine W_sub _ (.cons (i := 3) rfl (.cons (i := 2) rfl (.cons (i := 1) rfl (.nil _)))) ?_
        refine W_seq ?_
        refine W_seq ?_
        refine W_region ?_
        refine L_yld (Y_move rfl) rfl rfl rfl ?_
        refine L_yld (Y_neq rfl rfl) rfl rfl rfl ?_
        refine L_nil ?_
        refine X_then ?_
        refine W_sub _ (.cons (i := 39) rfl (.cons (i := 3) rfl (.cons (i := 2) rfl (.cons (i := 1) rfl (.nil _))))) ?_
        refine W_splitd rfl (fun f => ?_) (fun f => ?_)
        · refine W_seq ?_
          refine W_region ?_
          refine L_yld (Y_move rfl) rfl rfl rfl ?_
          refine L_yld (Y_assign rfl) rfl rfl rfl ?_
          refine L_nil ?_
          refine X_then ?_
          refine W_sub _ (.cons (i := 2) rfl (.cons (i := 1) rfl (.nil _))) ?_
          refine W_ret ?_
          refine X_then_ret ?_
          refine X_ret1 rfl rfl ?_
          exact ⟨by unfold fcheck; rw [if_neg (by omega), if_neg b, if_neg c, if_pos f], (hn1.ext.trans hx7)⟩
        · refine W_skip ?_
          refine X_then ?_
          refine W_sub _ (.cons (i := 2) rfl (.cons (i := 1) rfl (.nil _))) ?_
          refine W_seq ?_
          refine W_seq ?_
          refine W_region ?_
          refine L_yld (Y_fieldAddr (off := 0) (by kernel_rfl) rfl rfl) rfl rfl rfl ?_
          refine L_yld (Y_ldblk Tryz.underlying3 rfl rfl (hk2.ext hx7) rfl) rfl rfl rfl ?_
          refine L_yld (Y_eql rfl rfl) rfl rfl rfl ?_
          refine L_nil ?_
          refine X_then ?_
          refine W_sub _ (.cons (i := 43) rfl (.cons (i := 2) rfl (.cons (i := 1) rfl (.nil _)))) ?_
          refine W_splitd rfl (fun k1 => ?_) (fun k1 => ?_)
          · refine W_seq ?_
            refine W_cut (S := Unit) (fun _ => [(51, .bool (decide ((z < 0) ∨ (1099511627776 < z)))), (2, .int .i64 0), (1, .pointer (some ⟨h.size, 0, none⟩))]) (fun _ h' => h' = h2) ?_ ?_
            · refine W_region ?_
              refine L_yld (Y_fieldAddr (off := 4) (by kernel_rfl) rfl rfl) rfl rfl rfl ?_
              refine L_yld (Y_ldblk Tryz.underlying2 rfl rfl (hk2.ext hx7) rfl) rfl rfl rfl ?_
              refine L_yld (Y_lss rfl rfl) rfl rfl rfl ?_
              refine L_yld (Y_move rfl) rfl rfl rfl ?_
              refine L_splitd (d := 47) rfl (fun c8 => ?_) (fun c8 => ?_)
              · refine L_skip rfl rfl rfl ?_
                refine L_skip rfl rfl rfl ?_
                refine L_skip rfl rfl rfl ?_
                refine L_yld (Y_pick_t rfl rfl) rfl rfl rfl ?_
                refine L_nil ?_
                exact X_cut () (.cons (i := 51) (lkb rfl (by simp only [eq_true c8, true_and, and_true, false_and, and_false, true_or, or_true, false_or, or_false, not_true_eq_false, not_false_eq_true, decide_true, decide_false, Bool.true_eq_false, Bool.false_eq_true, eq_self, Bool.decide_eq_true])) (.cons (i := 2) rfl (.cons (i := 1) rfl (.nil _)))) rfl
              · refine L_yld (Y_fieldAddr (off := 4) (by kernel_rfl) rfl rfl) rfl rfl rfl ?_
                refine L_yld (Y_ldblk Tryz.underlying2 rfl rfl (hk2.ext hx7) rfl) rfl rfl rfl ?_
                refine L_yld (Y_gtr rfl rfl) rfl rfl rfl ?_
                refine L_yld (Y_pick_f rfl rfl) rfl rfl rfl ?_
                refine L_nil ?_
                exact X_cut () (.cons (i := 51) (lkb rfl (by simp only [eq_false c8, true_and, and_true, false_and, and_false, true_or, or_true, false_or, or_false, not_true_eq_false, not_false_eq_true, decide_true, decide_false, Bool.true_eq_false, Bool.false_eq_true, eq_self, Bool.decide_eq_true])) (.cons (i := 2) rfl (.cons (i := 1) rfl (.nil _)))) rfl
            rintro _ h2 rfl
            show W _ _ _ _ _ [(51, .bool (decide ((z < 0) ∨ (1099511627776 < z)))), (2, .int .i64 0), (1, .pointer (some ⟨h.size, 0, none⟩))] _
            refine W_splitd rfl (fun z1 => ?_) (fun z1 => ?_)
            · refine W_seq ?_
              refine W_region ?_
              refine L_yld (Y_assign rfl) rfl rfl rfl ?_
              refine L_nil ?_
              refine X_then ?_
              refine W_sub _ (.cons (i := 2) rfl (.cons (i := 1) rfl (.nil _))) ?_
              refine W_ret ?_
              refine X_then_ret ?_
              refine X_then_ret ?_
              refine X_ret1 rfl rfl ?_
              exact ⟨by unfold fcheck; rw [if_neg (by omega), if_neg b, if_neg c, if_neg f]; unfold fsize; rw [if_pos ⟨k1, z1⟩], (hn1.ext.trans hx7)⟩
            · refine W_skip ?_
              refine X_then ?_
              refine W_sub _ (.cons (i := 2) rfl (.cons (i := 1) rfl (.nil _))) ?_
              refine W_seq ?_
              refine W_region ?_
              refine L_yld (Y_assign rfl) rfl rfl rfl ?_
              refine L_nil ?_
              refine X_then ?_
              refine W_ret ?_
              refine X_then_ret ?_
              refine X_ret1 rfl rfl ?_
              exact ⟨by unfold fcheck; rw [if_neg (by omega), if_neg b, if_neg c, if_neg f]; unfold fsize; rw [if_neg (fun e => z1 e.2), if_neg (fun e => e.1 k1)], (hn1.ext.trans hx7)⟩
          · refine W_skip ?_
            refine X_then ?_
            refine W_sub _ (.cons (i := 2) rfl (.cons (i := 1) rfl (.nil _))) ?_
            refine W_seq ?_
            refine W_seq ?_
            refine W_region ?_
            refine L_yld (Y_fieldAddr (off := 4) (by kernel_rfl) rfl rfl) rfl rfl rfl ?_
            refine L_yld (Y_ldblk Tryz.underlying2 rfl rfl (hk2.ext hx7) rfl) rfl rfl rfl ?_
            refine L_yld (Y_neq rfl rfl) rfl rfl rfl ?_
            refine L_nil ?_
            refine X_then ?_
            refine W_sub _ (.cons (i := 54) rfl (.cons (i := 2) rfl (.nil _))) ?_
            refine W_splitd rfl (fun z1 => ?_) (fun z1 => ?_)
            · refine W_seq ?_
              refine W_region ?_
              refine L_yld (Y_assign rfl) rfl rfl rfl ?_
              refine L_nil ?_
              refine X_then ?_
              refine W_sub _ (.cons (i := 2) rfl (.nil _)) ?_
              refine W_ret ?_
              refine X_then_ret ?_
              refine X_ret1 rfl rfl ?_
              exact ⟨by unfold fcheck; rw [if_neg (by omega), if_neg b, if_neg c, if_neg f]; unfold fsize; rw [if_neg (fun e => k1 e.1), if_pos ⟨k1, z1⟩], (hn1.ext.trans hx7)⟩
            · refine W_skip ?_
              refine X_then ?_
              refine W_sub _ (.cons (i := 2) rfl (.nil _)) ?_
              refine W_seq ?_
              refine W_region ?_
              refine L_yld (Y_assign rfl) rfl rfl rfl ?_
              refine L_nil ?_
              refine X_then ?_
              refine W_ret ?_
              refine X_ret1 rfl rfl ?_
              exact ⟨by unfold fcheck; rw [if_neg (by omega), if_neg b, if_neg c, if_neg f]; unfold fsize; rw [if_neg (fun e => k1 e.1), if_neg (fun e => z1 e.2)], (hn1.ext.trans hx7)⟩
set_option maxRecDepth 100000 in
theorem law10_TooLarge (h : Heap) (k : Int) (p : List UInt8) (m : Int) (tg : List UInt8) (z : Int) (hp : p.length ≤ 140737488355328) (ht : tg.length ≤ 140737488355328) : Cal Tryz.prog 4 #[.agg #[.int .i64 (k), str p, .int .i64 (m), str tg, .int .i64 (z)]] h (fun v h' => v = .int .i64 ((if 70000 < p.length + tg.length then 1 else 0 : Int)) ∧ Ext h h') := by
  refine Cal_enter (args := [.agg #[.int .i64 (k), str p, .int .i64 (m), str tg, .int .i64 (z)]]) Tryz.func4 rfl rfl rfl (fun σ => ?_)
  refine W_seq ?_
  refine W_region ?_
  refine L_mks (M_box rfl) rfl rfl rfl ?_
  rintro _ h1 ⟨rfl, hn1⟩
  have hk2 : Blk h1 h.size [.int .i64 (k), str p, .int .i64 (m), str tg, .int .i64 (z)] := hn1.blk
  refine L_yld (Y_assign rfl) rfl rfl rfl ?_
  refine L_nil ?_
  refine X_then ?_
  refine W_sub _ (.cons (i := 2) rfl (.cons (i := 1) rfl (.nil _))) ?_
  refine W_seq ?_
  refine W_seq ?_
  refine W_region ?_
  refine L_yld (Y_fieldAddr (off := 1) (by kernel_rfl) rfl rfl) rfl rfl rfl ?_
  refine L_yld (Y_ldblk Tryz.underlying9 rfl rfl hk2 rfl) rfl rfl rfl ?_
  refine L_yld (Y_slen Tryz.underlying9 rfl) rfl rfl rfl ?_
  refine L_yld (Y_fieldAddr (off := 3) (by kernel_rfl) rfl rfl) rfl rfl rfl ?_
  refine L_yld (Y_ldblk Tryz.underlying9 rfl rfl hk2 rfl) rfl rfl rfl ?_
  refine L_yld (Y_slen Tryz.underlying9 rfl) rfl rfl rfl ?_
  refine L_yld (Y_add rfl rfl (by omega) (by omega)) rfl rfl rfl ?_
  refine L_yld (Y_gtr rfl rfl) rfl rfl rfl ?_
  refine L_nil ?_
  refine X_then ?_
  refine W_sub _ (.cons (i := 10) rfl (.cons (i := 2) rfl (.nil _))) ?_
  refine W_splitd rfl (fun a => ?_) (fun a => ?_)
  · refine W_seq ?_
    refine W_region ?_
    refine L_yld (Y_assign rfl) rfl rfl rfl ?_
    refine L_nil ?_
    refine X_then ?_
    refine W_sub _ (.cons (i := 2) rfl (.nil _)) ?_
    refine W_ret ?_
    refine X_then_ret ?_
    refine X_ret1 rfl rfl ?_
    exact ⟨by rw [if_pos (by omega)], hn1.ext⟩
  · refine W_skip ?_
    refine X_then ?_
    refine W_sub _ (.cons (i := 2) rfl (.nil _)) ?_
    refine W_seq ?_
    refine W_region ?_
    refine L_yld (Y_assign rfl) rfl rfl rfl ?_
    refine L_nil ?_
    refine X_then ?_
    refine W_ret ?_
    refine X_ret1 rfl rfl ?_
    exact ⟨by rw [if_neg (by omega)], hn1.ext⟩
theorem rec_ext {a b : List Rec} (hl : a.length = b.length) (h : ∀ k, k < a.length → at_rec a k = at_rec b k) : a = b := by
  apply List.ext_getElem hl
  intro i h1 h2
  have := h i h1
  rw [at_rec_eq h1, at_rec_eq h2] at this
  exact this

theorem rec_eq {a b : Rec} (h : a.key = b.key ∧ a.val = b.val) : a = b := by cases a; cases b; cases h.1; cases h.2; rfl

theorem sok_nil {p : List UInt8} (h : sok p = false) : snam p = [] ∧ spre p = [] := by
  unfold sok at h
  simp only [Bool.or_eq_false_iff, decide_eq_false_iff_not, Bool.not_eq_false'] at h
  unfold snam spre
  exact ⟨by rw [if_neg h.1, if_pos h.2], by rw [if_neg h.1, if_pos h.2]⟩
set_option maxRecDepth 100000 in
theorem ref10_Plan (h : Heap) (k : Int) (p : List UInt8) (m : Int) (tg : List UInt8) (z : Int) (hp : p.length ≤ 140737488355328) (ht : tg.length ≤ 140737488355328) (hz : -9223372036854775808 ≤ z ∧ z ≤ 9223372036854775807) : Cal Tryz.prog 17 #[.agg #[.int .i64 (k), str p, .int .i64 (m), str tg, .int .i64 (z)]] h (fun v h' => ∃ s1, v = .tuple #[.agg #[.int .u8 (fT (fcheck k p m tg z) k), str (fN (fcheck k p m tg z) p), str (fP (fcheck k p m tg z) p), str (fL (fcheck k p m tg z) tg), .int .i64 (fM (fcheck k p m tg z) m), .int .i64 (fZ (fcheck k p m tg z) z)], s1, .int .i64 (fcheck k p m tg z)] ∧ RowsO recS h' h.size s1 (fR (fcheck k p m tg z) p tg z) ∧ Ext h h') := by
  refine Cal_enter (args := [.agg #[.int .i64 (k), str p, .int .i64 (m), str tg, .int .i64 (z)]]) Tryz.func17 rfl rfl rfl (fun σ => ?_)
  refine W_seq ?_
  refine W_region ?_
  refine L_mks (M_box rfl) rfl rfl rfl ?_
  rintro _ h1 ⟨rfl, hn1⟩
  have hk2 : Blk h1 h.size [.int .i64 (k), str p, .int .i64 (m), str tg, .int .i64 (z)] := hn1.blk
  refine L_mks (M_alloc (u := .agg #[.int .u8 0, str [], str [], str [], .int .i64 0, .int .i64 0]) (by kernel_rfl)) rfl rfl rfl ?_
  rintro _ h2 ⟨rfl, hn3⟩
  have hk4 : Blk h2 h1.size [.int .u8 0, str [], str [], str [], .int .i64 0, .int .i64 0] := hn3.blk
  refine L_yld (Y_assign rfl) rfl rfl rfl ?_
  refine L_yld (Y_assign rfl) rfl rfl rfl ?_
  refine L_nil ?_
  refine X_then ?_
  refine W_sub _ (.cons (i := 4) rfl (.cons (i := 3) rfl (.cons (i := 2) rfl (.cons (i := 1) rfl (.nil _))))) ?_
  refine W_seq ?_
  refine W_region ?_
  refine L_yld (Y_ldbox (us := [.int .i64 (k), str p, .int .i64 (m), str tg, .int .i64 (z)]) Tryz.underlying23 rfl (show _ = some 5 by kernel_rfl) rfl (hk2.ext hn3.ext) rfl) rfl rfl rfl ?_
  refine L_call (E_call (by kernel_rfl) rfl) (ref10_Check _ k p m tg z (by first | first | omega | (simp; done) | (simp; omega) | rfl | (simp <;> omega)) (by first | first | omega | (simp; done) | (simp; omega) | rfl | (simp <;> omega))) rfl rfl rfl ?_
  rintro _ h3 ⟨rfl, hx5⟩
  refine L_yld (Y_assign rfl) rfl rfl rfl ?_
  refine L_nil ?_
  refine X_then ?_
  refine W_sub _ (.cons (i := 5) rfl (.cons (i := 4) rfl (.cons (i := 3) rfl (.cons (i := 2) rfl (.cons (i := 1) rfl (.nil _)))))) ?_
  refine W_seq ?_
  refine W_seq ?_
  refine W_region ?_
  refine L_yld (Y_move rfl) rfl rfl rfl ?_
  refine L_yld (Y_neq rfl rfl) rfl rfl rfl ?_
  refine L_nil ?_
  refine X_then ?_
  refine W_sub _ (.cons (i := 14) rfl (.cons (i := 5) rfl (.cons (i := 4) rfl (.cons (i := 3) rfl (.cons (i := 2) rfl (.cons (i := 1) rfl (.nil _))))))) ?_
  refine W_splitd rfl (fun e => ?_) (fun e => ?_)
  · refine W_seq ?_
    refine W_region ?_
    refine L_yld (Y_build (v := .agg #[.int .u8 0, str [], str [], str [], .int .i64 0, .int .i64 0]) (pv := []) (evp (is := []) (os := []) (vs := []) rfl rfl) (fun _ => by kernel_rfl)) rfl rfl rfl ?_
    refine L_yld (Y_move rfl) rfl rfl rfl ?_
    refine L_dos (D_store (us := [.int .u8 0, str [], str [], str [], .int .i64 0, .int .i64 0]) (show _ = some 6 by kernel_rfl) rfl rfl rfl (by simp [Value.oneCell']) (hk4.ext hx5) (by simp)) rfl rfl ?_
    rintro h4 hp6
    have hk7 : Blk h4 h1.size [.int .u8 0, str [], str [], str [], .int .i64 0, .int .i64 0] := hp6.blk
    refine L_yld (Y_assign rfl) rfl rfl rfl ?_
    refine L_yld (Y_assign rfl) rfl rfl rfl ?_
    refine L_nil ?_
    refine X_then ?_
    refine W_sub _ (.cons (i := 4) rfl (.cons (i := 3) rfl (.cons (i := 2) rfl (.cons (i := 1) rfl (.nil _))))) ?_
    refine W_ret ?_
    refine X_then_ret ?_
    refine X_retv3 rfl (RV.agg rfl Tryz.underlying45 rfl (show _ = some 6 by kernel_rfl) hk7) rfl rfl ?_
    refine ⟨.slice none 0 0, by simp [fT, fN, fP, fL, fM, fZ, e], ?_, (((hn1.ext.trans hn3.ext).trans hx5).then' hp6.only (by simp) hn1.ext.size)⟩
    rw [fR, if_neg e]
    exact RowsO.nil _ _ _
  · refine W_skip ?_
    refine X_then ?_
    refine W_sub _ (.cons (i := 4) rfl (.cons (i := 3) rfl (.cons (i := 2) rfl (.cons (i := 1) rfl (.nil _))))) ?_
    have e0 : fcheck k p m tg z = 0 := Classical.not_not.1 e
    have hkk := fcheck_kind e0
    refine W_seq ?_
    refine W_pers [(4, .int .i64 0), (3, .slice none 0 0), (2, .pointer (some ⟨h1.size, 0, none⟩)), (1, .pointer (some ⟨h.size, 0, none⟩))] (.cons (i := 4) rfl (.cons (i := 3) rfl (.cons (i := 2) rfl (.cons (i := 1) rfl (.nil _))))) (by kernel_rfl) ?_
    refine LP_op 0 (fun hh r4_1 => OwnB hh h3.size r4_1 ([53, 48, 50, 49])) [] rfl rfl (by kernel_rfl) (fun _ _ _ x_ p_ => p_.ext x_) ?_ ?_
    · intro h5 hx8
      refine Needs_nil ?_
      refine Stp_mks (M_litb (l := [53, 48, 50, 49]) (cells := [.int .u8 53, .int .u8 48, .int .u8 50, .int .u8 49]) (pv := [(0, .int .u8 53), (1, .int .u8 48), (2, .int .u8 50), (3, .int .u8 49)]) (E := 5) (evp (is := [0, 1, 2, 3]) (os := [.const (.int .u8 53), .const (.int .u8 48), .const (.int .u8 50), .const (.int .u8 49)]) (vs := [.int .u8 53, .int .u8 48, .int .u8 50, .int .u8 49]) rfl rfl) rfl rfl (fun _ => by kernel_rfl)) rfl ?_
      rintro v9 h6 ⟨ho10, hx11⟩
      exact ⟨hx11, (ho10.low hx8.size)⟩
    refine LP_op 1 (fun _ vv => .pointer (some ⟨h.size, 0 + 0, none⟩) = vv) [] rfl rfl (by kernel_rfl) (fun _ _ _ _ p => p) ?_ ?_
    · intro h7 hx12
      refine Needs_nil ?_
      refine Stp_yld (Y_fieldAddr (off := 0) (by kernel_rfl) rfl rfl) rfl ?_
      exact rfl
    refine LP_op 2 (fun _ vv => .int .i64 (k) = vv) [(1, 18)] rfl rfl (by kernel_rfl) (fun _ _ _ _ p => p) ?_ ?_
    · intro h8 hx13
      rintro _ rfl
      refine Needs_nil ?_
      refine Stp_yld (Y_ldblk Tryz.underlying3 rfl rfl (hk2.ext ((hn3.ext.trans hx5).trans hx13)) rfl) rfl ?_
      exact rfl
    refine LP_op 3 (fun hh vv => ∃ r4_1, vv = .pointer (some (elemAddr r4_1 ((k).toNat * 1))) ∧ Bytes hh r4_1 ([53, 48, 50, 49])) [(0, 17), (2, 19)] rfl rfl (by kernel_rfl) (fun _ _ _ x_ p_ => by obtain ⟨r4_1, rfl, q4_1⟩ := p_; exact ⟨_, rfl, q4_1.ext x_⟩) ?_ ?_
    · intro h9 hx14
      intro r4_1 q4_1
      rintro _ rfl
      refine Needs_nil ?_
      refine Stp_yld (Y_idx Tryz.underlying24 (show _ = some 1 by kernel_rfl) rfl rfl q4_1.bytes (by first | omega | (simp; done) | (simp; omega)) (by first | omega | (simp; done) | (simp; omega))) rfl ?_
      exact ⟨r4_1, rfl, q4_1.bytes⟩
    refine LP_op 4 (fun _ vv => .int .u8 (byt [53, 48, 50, 49] (k).toNat) = vv) [(3, 20)] rfl rfl (by kernel_rfl) (fun _ _ _ _ p => p) ?_ ?_
    · intro h10 hx15
      rintro _ ⟨r4_1, rfl, q4_1⟩
      refine Needs_nil ?_
      refine Stp_yld (Y_ldbyte Tryz.underlying5 rfl rfl q4_1 (by first | omega | (simp; done) | (simp; omega)) (by first | omega | (simp; done) | (simp; omega))) rfl ?_
      exact rfl
    refine LP_op 5 (fun _ vv => .pointer (some ⟨h.size, 0 + 2, none⟩) = vv) [] rfl rfl (by kernel_rfl) (fun _ _ _ _ p => p) ?_ ?_
    · intro h11 hx16
      refine Needs_nil ?_
      refine Stp_yld (Y_fieldAddr (off := 2) (by kernel_rfl) rfl rfl) rfl ?_
      exact rfl
    refine LP_op 6 (fun _ vv => .int .i64 (m) = vv) [(5, 22)] rfl rfl (by kernel_rfl) (fun _ _ _ _ p => p) ?_ ?_
    · intro h12 hx17
      rintro _ rfl
      refine Needs_nil ?_
      refine Stp_yld (Y_ldblk Tryz.underlying3 rfl rfl (hk2.ext ((hn3.ext.trans hx5).trans hx17)) rfl) rfl ?_
      exact rfl
    refine LP_op 7 (fun _ vv => .agg #[.int .u8 (byt [53, 48, 50, 49] (k).toNat), str [], str [], str [], .int .i64 (m), .int .i64 0] = vv) [(4, 21), (6, 23)] rfl rfl (by kernel_rfl) (fun _ _ _ _ p => p) ?_ ?_
    · intro h13 hx18
      rintro _ rfl
      rintro _ rfl
      refine Needs_nil ?_
      refine Stp_yld (Y_build (v := .agg #[.int .u8 (byt [53, 48, 50, 49] (k).toNat), str [], str [], str [], .int .i64 (m), .int .i64 0]) (pv := [(0, .int .u8 (byt [53, 48, 50, 49] (k).toNat)), (4, .int .i64 (m))]) (evp (is := [0, 4]) (os := [.tmp 21, .tmp 23]) (vs := [.int .u8 (byt [53, 48, 50, 49] (k).toNat), .int .i64 (m)]) rfl rfl) (fun _ => by kernel_rfl)) rfl ?_
      exact rfl
    refine LP_op 8 (fun hh vv => ∃ r4_2, vv = .pointer (some ⟨r4_2, 0, none⟩) ∧ Blk hh r4_2 [.int .u8 0, str [], str [], str [], .int .i64 0, .int .i64 0] ∧ h3.size ≤ r4_2) [] rfl rfl (by kernel_rfl) (fun _ _ _ x_ p_ => by obtain ⟨r4_2, rfl, q4_2, q4_2l⟩ := p_; exact ⟨_, rfl, q4_2.ext x_, q4_2l⟩) ?_ ?_
    · intro h14 hx19
      refine Needs_nil ?_
      refine Stp_mks (M_alloc (u := .agg #[.int .u8 0, str [], str [], str [], .int .i64 0, .int .i64 0]) (by kernel_rfl)) rfl ?_
      rintro _ h15 ⟨rfl, hn20⟩
      have hk21 : Blk h15 h14.size [.int .u8 0, str [], str [], str [], .int .i64 0, .int .i64 0] := hn20.blk
      exact ⟨hn20.ext, ⟨h14.size, rfl, hk21, hx19.size⟩⟩
    refine LP_tail rfl 9 [(7, 24), (8, 6)] rfl rfl (by kernel_rfl) (by kernel_rfl) (by kernel_rfl) rfl ?_
    intro h16 hx22
    rintro _ rfl
    rintro _ ⟨r4_2, rfl, q4_2, q4_2l⟩
    refine Needs_nil ?_
    refine L_dos (D_store (us := [.int .u8 (byt [53, 48, 50, 49] (k).toNat), str [], str [], str [], .int .i64 (m), .int .i64 0]) (show _ = some 6 by kernel_rfl) rfl rfl rfl (by simp [Value.oneCell']) q4_2 (by simp)) rfl rfl ?_
    rintro h17 hp23
    have hk24 : Blk h17 r4_2 [.int .u8 (byt [53, 48, 50, 49] (k).toNat), str [], str [], str [], .int .i64 (m), .int .i64 0] := hp23.blk
    refine L_nil ?_
    refine X_then ?_
    refine W_sub _ (.cons (i := 6) rfl (.cons (i := 4) rfl (.cons (i := 3) rfl (.cons (i := 2) rfl (.cons (i := 1) rfl (.nil _)))))) ?_
    refine W_seq ?_
    refine W_region ?_
    refine L_yld (Y_assign rfl) rfl rfl rfl ?_
    refine L_nil ?_
    refine X_then ?_
    refine W_seq ?_
    refine W_seq ?_
    refine W_region ?_
    refine L_yld (Y_fieldAddr (off := 3) (by kernel_rfl) rfl rfl) rfl rfl rfl ?_
    refine L_yld (Y_ldblk Tryz.underlying9 rfl rfl (hk2.ext (((hn3.ext.trans hx5).trans hx22).then' hp23.only (by simp) (Nat.le_trans (Nat.le_trans hn3.ext.size hx5.size) q4_2l))) rfl) rfl rfl rfl ?_
    refine L_yld (Y_slen Tryz.underlying9 rfl) rfl rfl rfl ?_
    refine L_yld (Y_leq rfl rfl) rfl rfl rfl ?_
    refine L_nil ?_
    refine X_then ?_
    refine W_sub _ (.cons (i := 28) rfl (.cons (i := 7) rfl (.cons (i := 6) rfl (.cons (i := 4) rfl (.cons (i := 3) rfl (.cons (i := 2) rfl (.cons (i := 1) rfl (.nil _)))))))) ?_
    refine W_splitd rfl (fun c1 => ?_) (fun c1 => ?_)
    · refine W_region ?_
      refine L_yld (Y_fieldAddr (off := 3) (by kernel_rfl) rfl rfl) rfl rfl rfl ?_
      refine L_yld (Y_ldblk Tryz.underlying9 rfl rfl (hk2.ext (((hn3.ext.trans hx5).trans hx22).then' hp23.only (by simp) (Nat.le_trans (Nat.le_trans hn3.ext.size hx5.size) q4_2l))) rfl) rfl rfl rfl ?_
      refine L_yld (Y_fieldAddr (off := 3) (by kernel_rfl) rfl rfl) rfl rfl rfl ?_
      refine L_dos (D_store (us := [str tg]) (show _ = some 1 by kernel_rfl) rfl rfl rfl (by simp [Value.oneCell']) hk24 (by simp)) rfl rfl ?_
      rintro h18 hp25
      have hk26 : Blk h18 r4_2 [.int .u8 (byt [53, 48, 50, 49] (k).toNat), str [], str [], str tg, .int .i64 (m), .int .i64 0] := hp25.blk
      refine L_nil ?_
      refine X_then ?_
      refine W_sub _ (.cons (i := 7) rfl (.cons (i := 6) rfl (.cons (i := 4) rfl (.cons (i := 3) rfl (.cons (i := 2) rfl (.cons (i := 1) rfl (.nil _))))))) ?_
      refine W_seq ?_
      refine W_region ?_
      refine L_yld (Y_fieldAddr (off := 1) (by kernel_rfl) rfl rfl) rfl rfl rfl ?_
      refine L_yld (Y_ldblk Tryz.underlying9 rfl rfl (hk2.ext ((((hn3.ext.trans hx5).trans hx22).then' hp23.only (by simp) (Nat.le_trans (Nat.le_trans hn3.ext.size hx5.size) q4_2l)).then' hp25.only (by simp) (Nat.le_trans (Nat.le_trans hn3.ext.size hx5.size) q4_2l))) rfl) rfl rfl rfl ?_
      refine L_call (E_call (by kernel_rfl) rfl) (ref08_Split _ p (by first | first | omega | (simp; done) | (simp; omega) | rfl | (simp <;> omega))) rfl rfl rfl ?_
      rintro _ h18 ⟨rfl, rfl⟩
      refine L_yld (Y_move rfl) rfl rfl rfl ?_
      refine L_yld (Y_extract (v := str (spre p)) rfl rfl) rfl rfl rfl ?_
      refine L_yld (Y_extract (v := str (snam p)) rfl rfl) rfl rfl rfl ?_
      refine L_yld (Y_extract (v := .bool (sok p)) rfl rfl) rfl rfl rfl ?_
      refine L_yld (Y_assign rfl) rfl rfl rfl ?_
      refine L_yld (Y_assign rfl) rfl rfl rfl ?_
      refine L_yld (Y_assign rfl) rfl rfl rfl ?_
      refine L_nil ?_
      refine X_then ?_
      refine W_sub _ (.cons (i := 10) rfl (.cons (i := 9) rfl (.cons (i := 8) rfl (.cons (i := 7) rfl (.cons (i := 6) rfl (.cons (i := 4) rfl (.cons (i := 3) rfl (.cons (i := 2) rfl (.cons (i := 1) rfl (.nil _)))))))))) ?_
      refine W_seq ?_
      refine W_seq ?_
      refine W_region ?_
      refine L_yld (Y_move rfl) rfl rfl rfl ?_
      refine L_nil ?_
      refine X_then ?_
      refine W_sub _ (.cons (i := 45) rfl (.cons (i := 9) rfl (.cons (i := 8) rfl (.cons (i := 7) rfl (.cons (i := 6) rfl (.cons (i := 4) rfl (.cons (i := 3) rfl (.cons (i := 2) rfl (.cons (i := 1) rfl (.nil _)))))))))) ?_
      refine W_split rfl (fun c2 => ?_) (fun c2 => ?_)
      · refine W_seq ?_
        refine W_region ?_
        refine L_yld (Y_move rfl) rfl rfl rfl ?_
        refine L_yld (Y_fieldAddr (off := 2) (by kernel_rfl) rfl rfl) rfl rfl rfl ?_
        refine L_dos (D_store (us := [str (spre p)]) (show _ = some 1 by kernel_rfl) rfl rfl rfl (by simp [Value.oneCell']) hk26 (by simp)) rfl rfl ?_
        rintro h19 hp27
        have hk28 : Blk h19 r4_2 [.int .u8 (byt [53, 48, 50, 49] (k).toNat), str [], str (spre p), str tg, .int .i64 (m), .int .i64 0] := hp27.blk
        refine L_nil ?_
        refine X_then ?_
        refine W_sub _ (.cons (i := 9) rfl (.cons (i := 7) rfl (.cons (i := 6) rfl (.cons (i := 4) rfl (.cons (i := 3) rfl (.cons (i := 2) rfl (.cons (i := 1) rfl (.nil _)))))))) ?_
        refine W_region ?_
        refine L_yld (Y_move rfl) rfl rfl rfl ?_
        refine L_yld (Y_fieldAddr (off := 1) (by kernel_rfl) rfl rfl) rfl rfl rfl ?_
        refine L_dos (D_store (us := [str (snam p)]) (show _ = some 1 by kernel_rfl) rfl rfl rfl (by simp [Value.oneCell']) hk28 (by simp)) rfl rfl ?_
        rintro h20 hp29
        have hk30 : Blk h20 r4_2 [.int .u8 (byt [53, 48, 50, 49] (k).toNat), str (snam p), str (spre p), str tg, .int .i64 (m), .int .i64 0] := hp29.blk
        refine L_nil ?_
        refine X_then ?_
        refine W_sub _ (.cons (i := 7) rfl (.cons (i := 6) rfl (.cons (i := 4) rfl (.cons (i := 3) rfl (.cons (i := 2) rfl (.cons (i := 1) rfl (.nil _))))))) ?_
        refine W_seq ?_
        refine W_seq ?_
        refine W_region ?_
        refine L_yld (Y_fieldAddr (off := 4) (by kernel_rfl) rfl rfl) rfl rfl rfl ?_
        refine L_yld (Y_ldblk Tryz.underlying2 rfl rfl (hk2.ext ((((((hn3.ext.trans hx5).trans hx22).then' hp23.only (by simp) (Nat.le_trans (Nat.le_trans hn3.ext.size hx5.size) q4_2l)).then' hp25.only (by simp) (Nat.le_trans (Nat.le_trans hn3.ext.size hx5.size) q4_2l)).then' hp27.only (by simp) (Nat.le_trans (Nat.le_trans hn3.ext.size hx5.size) q4_2l)).then' hp29.only (by simp) (Nat.le_trans (Nat.le_trans hn3.ext.size hx5.size) q4_2l))) rfl) rfl rfl rfl ?_
        refine L_yld (Y_leq rfl rfl) rfl rfl rfl ?_
        refine L_nil ?_
        refine X_then ?_
        refine W_sub _ (.cons (i := 58) rfl (.cons (i := 7) rfl (.cons (i := 6) rfl (.cons (i := 4) rfl (.cons (i := 3) rfl (.cons (i := 2) rfl (.cons (i := 1) rfl (.nil _)))))))) ?_
        refine W_splitd rfl (fun c3 => ?_) (fun c3 => ?_)
        · refine W_region ?_
          refine L_yld (Y_fieldAddr (off := 4) (by kernel_rfl) rfl rfl) rfl rfl rfl ?_
          refine L_yld (Y_ldblk Tryz.underlying2 rfl rfl (hk2.ext ((((((hn3.ext.trans hx5).trans hx22).then' hp23.only (by simp) (Nat.le_trans (Nat.le_trans hn3.ext.size hx5.size) q4_2l)).then' hp25.only (by simp) (Nat.le_trans (Nat.le_trans hn3.ext.size hx5.size) q4_2l)).then' hp27.only (by simp) (Nat.le_trans (Nat.le_trans hn3.ext.size hx5.size) q4_2l)).then' hp29.only (by simp) (Nat.le_trans (Nat.le_trans hn3.ext.size hx5.size) q4_2l))) rfl) rfl rfl rfl ?_
          refine L_yld (Y_fieldAddr (off := 5) (by kernel_rfl) rfl rfl) rfl rfl rfl ?_
          refine L_dos (D_store (us := [.int .i64 (z)]) (show _ = some 1 by kernel_rfl) rfl rfl rfl (by simp [Value.oneCell']) hk30 (by simp)) rfl rfl ?_
          rintro h21 hp31
          have hk32 : Blk h21 r4_2 [.int .u8 (byt [53, 48, 50, 49] (k).toNat), str (snam p), str (spre p), str tg, .int .i64 (m), .int .i64 (z)] := hp31.blk
          refine L_nil ?_
          refine X_then ?_
          refine W_sub _ (.cons (i := 7) rfl (.cons (i := 6) rfl (.cons (i := 4) rfl (.cons (i := 3) rfl (.cons (i := 2) rfl (.nil _)))))) ?_
          refine W_seq ?_
          refine W_region ?_
          refine L_yld (Y_ldbox (us := [.int .u8 (byt [53, 48, 50, 49] (k).toNat), str (snam p), str (spre p), str tg, .int .i64 (m), .int .i64 (z)]) Tryz.underlying45 rfl (show _ = some 6 by kernel_rfl) rfl hk32 rfl) rfl rfl rfl ?_
          refine L_yld (Y_move rfl) rfl rfl rfl ?_
          refine L_dos (D_store (us := [.int .u8 (byt [53, 48, 50, 49] (k).toNat), str (snam p), str (spre p), str tg, .int .i64 (m), .int .i64 (z)]) (show _ = some 6 by kernel_rfl) rfl rfl rfl (by simp [Value.oneCell']) (hk4.ext ((((((hx5.trans hx22).then' hp23.only (by simp) (Nat.le_trans hx5.size q4_2l)).then' hp25.only (by simp) (Nat.le_trans hx5.size q4_2l)).then' hp27.only (by simp) (Nat.le_trans hx5.size q4_2l)).then' hp29.only (by simp) (Nat.le_trans hx5.size q4_2l)).then' hp31.only (by simp) (Nat.le_trans hx5.size q4_2l))) (by simp)) rfl rfl ?_
          rintro h22 hp33
          have hk34 : Blk h22 h1.size [.int .u8 (byt [53, 48, 50, 49] (k).toNat), str (snam p), str (spre p), str tg, .int .i64 (m), .int .i64 (z)] := hp33.blk
          refine L_yld (Y_assign rfl) rfl rfl rfl ?_
          refine L_yld (Y_assign rfl) rfl rfl rfl ?_
          refine L_nil ?_
          refine X_then ?_
          refine W_sub _ (.cons (i := 4) rfl (.cons (i := 3) rfl (.cons (i := 2) rfl (.nil _)))) ?_
          refine W_ret ?_
          refine X_retv3 rfl (RV.agg rfl Tryz.underlying45 rfl (show _ = some 6 by kernel_rfl) hk34) rfl rfl ?_
          have c1x : ¬ 100 < tg.length := by omega
          have c2x : sok p = true := c2
          have c3x : ¬ 8589934591 < z := by omega
          refine ⟨(.slice none 0 0), ?_, ?_, (((((((((hn1.ext.trans hn3.ext).trans hx5).trans hx22).then' hp23.only (by simp) (Nat.le_trans (Nat.le_trans (Nat.le_trans hn1.ext.size hn3.ext.size) hx5.size) q4_2l)).then' hp25.only (by simp) (Nat.le_trans (Nat.le_trans (Nat.le_trans hn1.ext.size hn3.ext.size) hx5.size) q4_2l)).then' hp27.only (by simp) (Nat.le_trans (Nat.le_trans (Nat.le_trans hn1.ext.size hn3.ext.size) hx5.size) q4_2l)).then' hp29.only (by simp) (Nat.le_trans (Nat.le_trans (Nat.le_trans hn1.ext.size hn3.ext.size) hx5.size) q4_2l)).then' hp31.only (by simp) (Nat.le_trans (Nat.le_trans (Nat.le_trans hn1.ext.size hn3.ext.size) hx5.size) q4_2l)).then' hp33.only (by simp) hn1.ext.size)⟩
          · rw [e0, fT, fN, fP, fL, fM, fZ, if_pos rfl, if_pos rfl, if_pos rfl, if_pos rfl, if_pos rfl, if_pos rfl, if_neg c1x, if_neg c3x]; rfl
          · rw [e0, fR, if_pos rfl]; exact (RowsO.nil recS _ _).congr (by simp [frecs, c1x, c2x, c3x])
        · refine W_region ?_
          refine L_yld (Y_move rfl) rfl rfl rfl ?_
          refine L_yld (Y_fieldAddr (off := 4) (by kernel_rfl) rfl rfl) rfl rfl rfl ?_
          refine L_yld (Y_ldblk Tryz.underlying2 rfl rfl (hk2.ext ((((((hn3.ext.trans hx5).trans hx22).then' hp23.only (by simp) (Nat.le_trans (Nat.le_trans hn3.ext.size hx5.size) q4_2l)).then' hp25.only (by simp) (Nat.le_trans (Nat.le_trans hn3.ext.size hx5.size) q4_2l)).then' hp27.only (by simp) (Nat.le_trans (Nat.le_trans hn3.ext.size hx5.size) q4_2l)).then' hp29.only (by simp) (Nat.le_trans (Nat.le_trans hn3.ext.size hx5.size) q4_2l))) rfl) rfl rfl rfl ?_
          refine L_call (E_call (by kernel_rfl) rfl) (ref09_Decimal _ z (by first | first | omega | (simp; done) | (simp; omega) | rfl | (simp <;> omega))) rfl rfl rfl ?_
          rintro _ h23 ⟨rfl, hx35⟩
          refine L_yld (Y_build (v := .agg #[str [115, 105, 122, 101], str (Lib.decDigits z.toNat)]) (pv := [(0, str [115, 105, 122, 101]), (1, str (Lib.decDigits z.toNat))]) (evp (is := [0, 1]) (os := [.const (str [115, 105, 122, 101]), .tmp 65]) (vs := [str [115, 105, 122, 101], str (Lib.decDigits z.toNat)]) rfl rfl) (fun _ => by kernel_rfl)) rfl rfl rfl ?_
          refine L_mks (M_litr (S := recS) (l := [⟨[115, 105, 122, 101], Lib.decDigits z.toNat⟩]) (cells := [str [115, 105, 122, 101], str (Lib.decDigits z.toNat)]) (pv := [(0, .agg #[str [115, 105, 122, 101], str (Lib.decDigits z.toNat)])]) (E := 76) (evp (is := [0]) (os := [.tmp 66]) (vs := [.agg #[str [115, 105, 122, 101], str (Lib.decDigits z.toNat)]]) rfl rfl) rfl rfl (fun _ => by kernel_rfl) (by simp only [List.mem_cons, List.not_mem_nil, or_false, forall_eq_or_imp, forall_eq]; exact trivial)) rfl rfl rfl ?_
          rintro v36 h24 ⟨ho37, hx38⟩
          refine L_mks (M_appr0 nsRec (z := 2) (bytes := 32) (z0 := (.agg #[str [], str []])) Tryz.underlying37 (by unfold elemRow; kernel_rfl) rfl rfl (by decide) rfl rfl (RowsO.nil recS _ h24.size) ho37.rows (Nat.le_refl _) (by first | (simp; done) | (simp; omega))) rfl rfl rfl ?_
          rintro v39 h25 ha40
          refine L_yld (Y_assign rfl) rfl rfl rfl ?_
          refine L_nil ?_
          refine X_then ?_
          refine W_sub _ (.cons (i := 7) rfl (.cons (i := 6) rfl (.cons (i := 4) rfl (.cons (i := 3) rfl (.cons (i := 2) rfl (.nil _)))))) ?_
          refine W_seq ?_
          refine W_region ?_
          refine L_yld (Y_ldbox (us := [.int .u8 (byt [53, 48, 50, 49] (k).toNat), str (snam p), str (spre p), str tg, .int .i64 (m), .int .i64 0]) Tryz.underlying45 rfl (show _ = some 6 by kernel_rfl) rfl (hk30.ext ((hx35.trans hx38).then' ha40.only ha40.ge (Nat.le_trans hx35.size hx38.size))) rfl) rfl rfl rfl ?_
          refine L_yld (Y_move rfl) rfl rfl rfl ?_
          refine L_dos (D_store (us := [.int .u8 (byt [53, 48, 50, 49] (k).toNat), str (snam p), str (spre p), str tg, .int .i64 (m), .int .i64 0]) (show _ = some 6 by kernel_rfl) rfl rfl rfl (by simp [Value.oneCell']) (hk4.ext ((((((((hx5.trans hx22).then' hp23.only (by simp) (Nat.le_trans hx5.size q4_2l)).then' hp25.only (by simp) (Nat.le_trans hx5.size q4_2l)).then' hp27.only (by simp) (Nat.le_trans hx5.size q4_2l)).then' hp29.only (by simp) (Nat.le_trans hx5.size q4_2l)).trans hx35).trans hx38).then' ha40.only ha40.ge (Nat.le_trans (Nat.le_trans (Nat.le_trans (Nat.le_trans (Nat.le_trans (Nat.le_trans (Nat.le_trans hx5.size hx22.size) hp23.only.size) hp25.only.size) hp27.only.size) hp29.only.size) hx35.size) hx38.size))) (by simp)) rfl rfl ?_
          rintro h26 hp41
          have hk42 : Blk h26 h1.size [.int .u8 (byt [53, 48, 50, 49] (k).toNat), str (snam p), str (spre p), str tg, .int .i64 (m), .int .i64 0] := hp41.blk
          refine L_yld (Y_assign rfl) rfl rfl rfl ?_
          refine L_yld (Y_assign rfl) rfl rfl rfl ?_
          refine L_nil ?_
          refine X_then ?_
          refine W_sub _ (.cons (i := 4) rfl (.cons (i := 3) rfl (.cons (i := 2) rfl (.nil _)))) ?_
          refine W_ret ?_
          refine X_retv3 rfl (RV.agg rfl Tryz.underlying45 rfl (show _ = some 6 by kernel_rfl) hk42) rfl rfl ?_
          have c1x : ¬ 100 < tg.length := by omega
          have c2x : sok p = true := c2
          have c3x : 8589934591 < z := by omega
          refine ⟨v39, ?_, ?_, (((((((((((hn1.ext.trans hn3.ext).trans hx5).trans hx22).then' hp23.only (by simp) (Nat.le_trans (Nat.le_trans (Nat.le_trans hn1.ext.size hn3.ext.size) hx5.size) q4_2l)).then' hp25.only (by simp) (Nat.le_trans (Nat.le_trans (Nat.le_trans hn1.ext.size hn3.ext.size) hx5.size) q4_2l)).then' hp27.only (by simp) (Nat.le_trans (Nat.le_trans (Nat.le_trans hn1.ext.size hn3.ext.size) hx5.size) q4_2l)).then' hp29.only (by simp) (Nat.le_trans (Nat.le_trans (Nat.le_trans hn1.ext.size hn3.ext.size) hx5.size) q4_2l)).trans hx35).trans hx38).then' ha40.only ha40.ge (Nat.le_trans (Nat.le_trans (Nat.le_trans (Nat.le_trans (Nat.le_trans (Nat.le_trans (Nat.le_trans (Nat.le_trans (Nat.le_trans hn1.ext.size hn3.ext.size) hx5.size) hx22.size) hp23.only.size) hp25.only.size) hp27.only.size) hp29.only.size) hx35.size) hx38.size)).then' hp41.only (by simp) hn1.ext.size)⟩
          · rw [e0, fT, fN, fP, fL, fM, fZ, if_pos rfl, if_pos rfl, if_pos rfl, if_pos rfl, if_pos rfl, if_pos rfl, if_neg c1x, if_pos c3x]; rfl
          · rw [e0, fR, if_pos rfl]; exact RowsO.congr (((ha40.own.only1 nsRec hp41.only (Nat.lt_of_lt_of_le hk4.lt (Nat.le_trans (Nat.le_trans (Nat.le_trans (Nat.le_trans (Nat.le_trans (Nat.le_trans (Nat.le_trans hx5.size hx22.size) hp23.only.size) hp25.only.size) hp27.only.size) hp29.only.size) hx35.size) hx38.size)))).low (Nat.le_trans (Nat.le_trans (Nat.le_trans (Nat.le_trans (Nat.le_trans (Nat.le_trans (Nat.le_trans (Nat.le_trans (Nat.le_trans hn1.ext.size hn3.ext.size) hx5.size) hx22.size) hp23.only.size) hp25.only.size) hp27.only.size) hp29.only.size) hx35.size) hx38.size)) (by simp [frecs, c1x, c2x, c3x])
      · refine W_region ?_
        refine L_yld (Y_move rfl) rfl rfl rfl ?_
        refine L_yld (Y_fieldAddr (off := 1) (by kernel_rfl) rfl rfl) rfl rfl rfl ?_
        refine L_yld (Y_ldblk Tryz.underlying9 rfl rfl (hk2.ext ((((hn3.ext.trans hx5).trans hx22).then' hp23.only (by simp) (Nat.le_trans (Nat.le_trans hn3.ext.size hx5.size) q4_2l)).then' hp25.only (by simp) (Nat.le_trans (Nat.le_trans hn3.ext.size hx5.size) q4_2l))) rfl) rfl rfl rfl ?_
        refine L_yld (Y_build (v := .agg #[str [112, 97, 116, 104], str p]) (pv := [(0, str [112, 97, 116, 104]), (1, str p)]) (evp (is := [0, 1]) (os := [.const (str [112, 97, 116, 104]), .tmp 52]) (vs := [str [112, 97, 116, 104], str p]) rfl rfl) (fun _ => by kernel_rfl)) rfl rfl rfl ?_
        refine L_mks (M_litr (S := recS) (l := [⟨[112, 97, 116, 104], p⟩]) (cells := [str [112, 97, 116, 104], str p]) (pv := [(0, .agg #[str [112, 97, 116, 104], str p])]) (E := 76) (evp (is := [0]) (os := [.tmp 53]) (vs := [.agg #[str [112, 97, 116, 104], str p]]) rfl rfl) rfl rfl (fun _ => by kernel_rfl) (by simp only [List.mem_cons, List.not_mem_nil, or_false, forall_eq_or_imp, forall_eq]; exact trivial)) rfl rfl rfl ?_
        rintro v43 h27 ⟨ho44, hx45⟩
        refine L_mks (M_appr0 nsRec (z := 2) (bytes := 32) (z0 := (.agg #[str [], str []])) Tryz.underlying37 (by unfold elemRow; kernel_rfl) rfl rfl (by decide) rfl rfl (RowsO.nil recS _ h27.size) ho44.rows (Nat.le_refl _) (by first | (simp; done) | (simp; omega))) rfl rfl rfl ?_
        rintro v46 h28 ha47
        refine L_yld (Y_assign rfl) rfl rfl rfl ?_
        refine L_nil ?_
        refine X_then ?_
        refine W_sub _ (.cons (i := 7) rfl (.cons (i := 6) rfl (.cons (i := 4) rfl (.cons (i := 3) rfl (.cons (i := 2) rfl (.cons (i := 1) rfl (.nil _))))))) ?_
        refine W_seq ?_
        refine W_seq ?_
        refine W_region ?_
        refine L_yld (Y_fieldAddr (off := 4) (by kernel_rfl) rfl rfl) rfl rfl rfl ?_
        refine L_yld (Y_ldblk Tryz.underlying2 rfl rfl (hk2.ext ((((((hn3.ext.trans hx5).trans hx22).then' hp23.only (by simp) (Nat.le_trans (Nat.le_trans hn3.ext.size hx5.size) q4_2l)).then' hp25.only (by simp) (Nat.le_trans (Nat.le_trans hn3.ext.size hx5.size) q4_2l)).trans hx45).then' ha47.only ha47.ge (Nat.le_trans (Nat.le_trans (Nat.le_trans (Nat.le_trans (Nat.le_trans hn3.ext.size hx5.size) hx22.size) hp23.only.size) hp25.only.size) hx45.size))) rfl) rfl rfl rfl ?_
        refine L_yld (Y_leq rfl rfl) rfl rfl rfl ?_
        refine L_nil ?_
        refine X_then ?_
        refine W_sub _ (.cons (i := 58) rfl (.cons (i := 7) rfl (.cons (i := 6) rfl (.cons (i := 4) rfl (.cons (i := 3) rfl (.cons (i := 2) rfl (.cons (i := 1) rfl (.nil _)))))))) ?_
        refine W_splitd rfl (fun c3 => ?_) (fun c3 => ?_)
        · refine W_region ?_
          refine L_yld (Y_fieldAddr (off := 4) (by kernel_rfl) rfl rfl) rfl rfl rfl ?_
          refine L_yld (Y_ldblk Tryz.underlying2 rfl rfl (hk2.ext ((((((hn3.ext.trans hx5).trans hx22).then' hp23.only (by simp) (Nat.le_trans (Nat.le_trans hn3.ext.size hx5.size) q4_2l)).then' hp25.only (by simp) (Nat.le_trans (Nat.le_trans hn3.ext.size hx5.size) q4_2l)).trans hx45).then' ha47.only ha47.ge (Nat.le_trans (Nat.le_trans (Nat.le_trans (Nat.le_trans (Nat.le_trans hn3.ext.size hx5.size) hx22.size) hp23.only.size) hp25.only.size) hx45.size))) rfl) rfl rfl rfl ?_
          refine L_yld (Y_fieldAddr (off := 5) (by kernel_rfl) rfl rfl) rfl rfl rfl ?_
          refine L_dos (D_store (us := [.int .i64 (z)]) (show _ = some 1 by kernel_rfl) rfl rfl rfl (by simp [Value.oneCell']) (hk26.ext (hx45.then' ha47.only ha47.ge hx45.size)) (by simp)) rfl rfl ?_
          rintro h29 hp48
          have hk49 : Blk h29 r4_2 [.int .u8 (byt [53, 48, 50, 49] (k).toNat), str [], str [], str tg, .int .i64 (m), .int .i64 (z)] := hp48.blk
          refine L_nil ?_
          refine X_then ?_
          refine W_sub _ (.cons (i := 7) rfl (.cons (i := 6) rfl (.cons (i := 4) rfl (.cons (i := 3) rfl (.cons (i := 2) rfl (.nil _)))))) ?_
          refine W_seq ?_
          refine W_region ?_
          refine L_yld (Y_ldbox (us := [.int .u8 (byt [53, 48, 50, 49] (k).toNat), str [], str [], str tg, .int .i64 (m), .int .i64 (z)]) Tryz.underlying45 rfl (show _ = some 6 by kernel_rfl) rfl hk49 rfl) rfl rfl rfl ?_
          refine L_yld (Y_move rfl) rfl rfl rfl ?_
          refine L_dos (D_store (us := [.int .u8 (byt [53, 48, 50, 49] (k).toNat), str [], str [], str tg, .int .i64 (m), .int .i64 (z)]) (show _ = some 6 by kernel_rfl) rfl rfl rfl (by simp [Value.oneCell']) (hk4.ext ((((((hx5.trans hx22).then' hp23.only (by simp) (Nat.le_trans hx5.size q4_2l)).then' hp25.only (by simp) (Nat.le_trans hx5.size q4_2l)).trans hx45).then' ha47.only ha47.ge (Nat.le_trans (Nat.le_trans (Nat.le_trans (Nat.le_trans hx5.size hx22.size) hp23.only.size) hp25.only.size) hx45.size)).then' hp48.only (by simp) (Nat.le_trans hx5.size q4_2l))) (by simp)) rfl rfl ?_
          rintro h30 hp50
          have hk51 : Blk h30 h1.size [.int .u8 (byt [53, 48, 50, 49] (k).toNat), str [], str [], str tg, .int .i64 (m), .int .i64 (z)] := hp50.blk
          refine L_yld (Y_assign rfl) rfl rfl rfl ?_
          refine L_yld (Y_assign rfl) rfl rfl rfl ?_
          refine L_nil ?_
          refine X_then ?_
          refine W_sub _ (.cons (i := 4) rfl (.cons (i := 3) rfl (.cons (i := 2) rfl (.nil _)))) ?_
          refine W_ret ?_
          refine X_retv3 rfl (RV.agg rfl Tryz.underlying45 rfl (show _ = some 6 by kernel_rfl) hk51) rfl rfl ?_
          have c1x : ¬ 100 < tg.length := by omega
          have c2x : sok p = false := by simpa using c2
          have c3x : ¬ 8589934591 < z := by omega
          refine ⟨v46, ?_, ?_, (((((((((hn1.ext.trans hn3.ext).trans hx5).trans hx22).then' hp23.only (by simp) (Nat.le_trans (Nat.le_trans (Nat.le_trans hn1.ext.size hn3.ext.size) hx5.size) q4_2l)).then' hp25.only (by simp) (Nat.le_trans (Nat.le_trans (Nat.le_trans hn1.ext.size hn3.ext.size) hx5.size) q4_2l)).trans hx45).then' ha47.only ha47.ge (Nat.le_trans (Nat.le_trans (Nat.le_trans (Nat.le_trans (Nat.le_trans (Nat.le_trans hn1.ext.size hn3.ext.size) hx5.size) hx22.size) hp23.only.size) hp25.only.size) hx45.size)).then' hp48.only (by simp) (Nat.le_trans (Nat.le_trans (Nat.le_trans hn1.ext.size hn3.ext.size) hx5.size) q4_2l)).then' hp50.only (by simp) hn1.ext.size)⟩
          · rw [e0, fT, fN, fP, fL, fM, fZ, if_pos rfl, if_pos rfl, if_pos rfl, if_pos rfl, if_pos rfl, if_pos rfl, if_neg c1x, if_neg c3x]; have sn := sok_nil c2x; rw [sn.1, sn.2]; rfl
          · rw [e0, fR, if_pos rfl]; exact RowsO.congr ((((ha47.own.only1 nsRec hp48.only (Nat.lt_of_lt_of_le q4_2.lt (Nat.le_trans (Nat.le_trans hp23.only.size hp25.only.size) hx45.size))).only1 nsRec hp50.only (Nat.lt_of_lt_of_le hk4.lt (Nat.le_trans (Nat.le_trans (Nat.le_trans (Nat.le_trans hx5.size hx22.size) hp23.only.size) hp25.only.size) hx45.size)))).low (Nat.le_trans (Nat.le_trans (Nat.le_trans (Nat.le_trans (Nat.le_trans (Nat.le_trans hn1.ext.size hn3.ext.size) hx5.size) hx22.size) hp23.only.size) hp25.only.size) hx45.size)) (by simp [frecs, c1x, c2x, c3x])
        · refine W_region ?_
          refine L_yld (Y_move rfl) rfl rfl rfl ?_
          refine L_yld (Y_fieldAddr (off := 4) (by kernel_rfl) rfl rfl) rfl rfl rfl ?_
          refine L_yld (Y_ldblk Tryz.underlying2 rfl rfl (hk2.ext ((((((hn3.ext.trans hx5).trans hx22).then' hp23.only (by simp) (Nat.le_trans (Nat.le_trans hn3.ext.size hx5.size) q4_2l)).then' hp25.only (by simp) (Nat.le_trans (Nat.le_trans hn3.ext.size hx5.size) q4_2l)).trans hx45).then' ha47.only ha47.ge (Nat.le_trans (Nat.le_trans (Nat.le_trans (Nat.le_trans (Nat.le_trans hn3.ext.size hx5.size) hx22.size) hp23.only.size) hp25.only.size) hx45.size))) rfl) rfl rfl rfl ?_
          refine L_call (E_call (by kernel_rfl) rfl) (ref09_Decimal _ z (by first | first | omega | (simp; done) | (simp; omega) | rfl | (simp <;> omega))) rfl rfl rfl ?_
          rintro _ h31 ⟨rfl, hx52⟩
          refine L_yld (Y_build (v := .agg #[str [115, 105, 122, 101], str (Lib.decDigits z.toNat)]) (pv := [(0, str [115, 105, 122, 101]), (1, str (Lib.decDigits z.toNat))]) (evp (is := [0, 1]) (os := [.const (str [115, 105, 122, 101]), .tmp 65]) (vs := [str [115, 105, 122, 101], str (Lib.decDigits z.toNat)]) rfl rfl) (fun _ => by kernel_rfl)) rfl rfl rfl ?_
          refine L_mks (M_litr (S := recS) (l := [⟨[115, 105, 122, 101], Lib.decDigits z.toNat⟩]) (cells := [str [115, 105, 122, 101], str (Lib.decDigits z.toNat)]) (pv := [(0, .agg #[str [115, 105, 122, 101], str (Lib.decDigits z.toNat)])]) (E := 76) (evp (is := [0]) (os := [.tmp 66]) (vs := [.agg #[str [115, 105, 122, 101], str (Lib.decDigits z.toNat)]]) rfl rfl) rfl rfl (fun _ => by kernel_rfl) (by simp only [List.mem_cons, List.not_mem_nil, or_false, forall_eq_or_imp, forall_eq]; exact trivial)) rfl rfl rfl ?_
          rintro v53 h32 ⟨ho54, hx55⟩
          refine L_mks (M_appr0 nsRec (z := 2) (bytes := 32) (z0 := (.agg #[str [], str []])) Tryz.underlying37 (by unfold elemRow; kernel_rfl) rfl rfl (by decide) rfl rfl (ha47.own.ext (hx52.trans hx55)) ho54.rows (Nat.le_trans (Nat.le_trans ha47.only.size hx52.size) hx55.size) (by first | (simp; done) | (simp; omega))) rfl rfl rfl ?_
          rintro v56 h33 ha57
          refine L_yld (Y_assign rfl) rfl rfl rfl ?_
          refine L_nil ?_
          refine X_then ?_
          refine W_sub _ (.cons (i := 7) rfl (.cons (i := 6) rfl (.cons (i := 4) rfl (.cons (i := 3) rfl (.cons (i := 2) rfl (.nil _)))))) ?_
          refine W_seq ?_
          refine W_region ?_
          refine L_yld (Y_ldbox (us := [.int .u8 (byt [53, 48, 50, 49] (k).toNat), str [], str [], str tg, .int .i64 (m), .int .i64 0]) Tryz.underlying45 rfl (show _ = some 6 by kernel_rfl) rfl (hk26.ext ((((hx45.then' ha47.only ha47.ge hx45.size).trans hx52).trans hx55).then' ha57.only ha57.ge hx45.size)) rfl) rfl rfl rfl ?_
          refine L_yld (Y_move rfl) rfl rfl rfl ?_
          refine L_dos (D_store (us := [.int .u8 (byt [53, 48, 50, 49] (k).toNat), str [], str [], str tg, .int .i64 (m), .int .i64 0]) (show _ = some 6 by kernel_rfl) rfl rfl rfl (by simp [Value.oneCell']) (hk4.ext ((((((((hx5.trans hx22).then' hp23.only (by simp) (Nat.le_trans hx5.size q4_2l)).then' hp25.only (by simp) (Nat.le_trans hx5.size q4_2l)).trans hx45).then' ha47.only ha47.ge (Nat.le_trans (Nat.le_trans (Nat.le_trans (Nat.le_trans hx5.size hx22.size) hp23.only.size) hp25.only.size) hx45.size)).trans hx52).trans hx55).then' ha57.only ha57.ge (Nat.le_trans (Nat.le_trans (Nat.le_trans (Nat.le_trans hx5.size hx22.size) hp23.only.size) hp25.only.size) hx45.size))) (by simp)) rfl rfl ?_
          rintro h34 hp58
          have hk59 : Blk h34 h1.size [.int .u8 (byt [53, 48, 50, 49] (k).toNat), str [], str [], str tg, .int .i64 (m), .int .i64 0] := hp58.blk
          refine L_yld (Y_assign rfl) rfl rfl rfl ?_
          refine L_yld (Y_assign rfl) rfl rfl rfl ?_
          refine L_nil ?_
          refine X_then ?_
          refine W_sub _ (.cons (i := 4) rfl (.cons (i := 3) rfl (.cons (i := 2) rfl (.nil _)))) ?_
          refine W_ret ?_
          refine X_retv3 rfl (RV.agg rfl Tryz.underlying45 rfl (show _ = some 6 by kernel_rfl) hk59) rfl rfl ?_
          have c1x : ¬ 100 < tg.length := by omega
          have c2x : sok p = false := by simpa using c2
          have c3x : 8589934591 < z := by omega
          refine ⟨v56, ?_, ?_, (((((((((((hn1.ext.trans hn3.ext).trans hx5).trans hx22).then' hp23.only (by simp) (Nat.le_trans (Nat.le_trans (Nat.le_trans hn1.ext.size hn3.ext.size) hx5.size) q4_2l)).then' hp25.only (by simp) (Nat.le_trans (Nat.le_trans (Nat.le_trans hn1.ext.size hn3.ext.size) hx5.size) q4_2l)).trans hx45).then' ha47.only ha47.ge (Nat.le_trans (Nat.le_trans (Nat.le_trans (Nat.le_trans (Nat.le_trans (Nat.le_trans hn1.ext.size hn3.ext.size) hx5.size) hx22.size) hp23.only.size) hp25.only.size) hx45.size)).trans hx52).trans hx55).then' ha57.only ha57.ge (Nat.le_trans (Nat.le_trans (Nat.le_trans (Nat.le_trans (Nat.le_trans (Nat.le_trans hn1.ext.size hn3.ext.size) hx5.size) hx22.size) hp23.only.size) hp25.only.size) hx45.size)).then' hp58.only (by simp) hn1.ext.size)⟩
          · rw [e0, fT, fN, fP, fL, fM, fZ, if_pos rfl, if_pos rfl, if_pos rfl, if_pos rfl, if_pos rfl, if_pos rfl, if_neg c1x, if_pos c3x]; have sn := sok_nil c2x; rw [sn.1, sn.2]; rfl
          · rw [e0, fR, if_pos rfl]; exact RowsO.congr (((ha57.own.only1 nsRec hp58.only (Nat.lt_of_lt_of_le hk4.lt (Nat.le_trans (Nat.le_trans (Nat.le_trans (Nat.le_trans hx5.size hx22.size) hp23.only.size) hp25.only.size) hx45.size)))).low (Nat.le_trans (Nat.le_trans (Nat.le_trans (Nat.le_trans (Nat.le_trans (Nat.le_trans hn1.ext.size hn3.ext.size) hx5.size) hx22.size) hp23.only.size) hp25.only.size) hx45.size)) (by simp [frecs, c1x, c2x, c3x])
    · refine W_region ?_
      refine L_yld (Y_move rfl) rfl rfl rfl ?_
      refine L_yld (Y_fieldAddr (off := 3) (by kernel_rfl) rfl rfl) rfl rfl rfl ?_
      refine L_yld (Y_ldblk Tryz.underlying9 rfl rfl (hk2.ext (((hn3.ext.trans hx5).trans hx22).then' hp23.only (by simp) (Nat.le_trans (Nat.le_trans hn3.ext.size hx5.size) q4_2l))) rfl) rfl rfl rfl ?_
      refine L_yld (Y_build (v := .agg #[str [108, 105, 110, 107, 112, 97, 116, 104], str tg]) (pv := [(0, str [108, 105, 110, 107, 112, 97, 116, 104]), (1, str tg)]) (evp (is := [0, 1]) (os := [.const (str [108, 105, 110, 107, 112, 97, 116, 104]), .tmp 34]) (vs := [str [108, 105, 110, 107, 112, 97, 116, 104], str tg]) rfl rfl) (fun _ => by kernel_rfl)) rfl rfl rfl ?_
      refine L_mks (M_litr (S := recS) (l := [⟨[108, 105, 110, 107, 112, 97, 116, 104], tg⟩]) (cells := [str [108, 105, 110, 107, 112, 97, 116, 104], str tg]) (pv := [(0, .agg #[str [108, 105, 110, 107, 112, 97, 116, 104], str tg])]) (E := 76) (evp (is := [0]) (os := [.tmp 35]) (vs := [.agg #[str [108, 105, 110, 107, 112, 97, 116, 104], str tg]]) rfl rfl) rfl rfl (fun _ => by kernel_rfl) (by simp only [List.mem_cons, List.not_mem_nil, or_false, forall_eq_or_imp, forall_eq]; exact trivial)) rfl rfl rfl ?_
      rintro v60 h35 ⟨ho61, hx62⟩
      refine L_mks (M_appr0 nsRec (z := 2) (bytes := 32) (z0 := (.agg #[str [], str []])) Tryz.underlying37 (by unfold elemRow; kernel_rfl) rfl rfl (by decide) rfl rfl (RowsO.nil recS _ h35.size) ho61.rows (Nat.le_refl _) (by first | (simp; done) | (simp; omega))) rfl rfl rfl ?_
      rintro v63 h36 ha64
      refine L_yld (Y_assign rfl) rfl rfl rfl ?_
      refine L_nil ?_
      refine X_then ?_
      refine W_sub _ (.cons (i := 7) rfl (.cons (i := 6) rfl (.cons (i := 4) rfl (.cons (i := 3) rfl (.cons (i := 2) rfl (.cons (i := 1) rfl (.nil _))))))) ?_
      refine W_seq ?_
      refine W_region ?_
      refine L_yld (Y_fieldAddr (off := 1) (by kernel_rfl) rfl rfl) rfl rfl rfl ?_
      refine L_yld (Y_ldblk Tryz.underlying9 rfl rfl (hk2.ext (((((hn3.ext.trans hx5).trans hx22).then' hp23.only (by simp) (Nat.le_trans (Nat.le_trans hn3.ext.size hx5.size) q4_2l)).trans hx62).then' ha64.only ha64.ge (Nat.le_trans (Nat.le_trans (Nat.le_trans (Nat.le_trans hn3.ext.size hx5.size) hx22.size) hp23.only.size) hx62.size))) rfl) rfl rfl rfl ?_
      refine L_call (E_call (by kernel_rfl) rfl) (ref08_Split _ p (by first | first | omega | (simp; done) | (simp; omega) | rfl | (simp <;> omega))) rfl rfl rfl ?_
      rintro _ h36 ⟨rfl, rfl⟩
      refine L_yld (Y_move rfl) rfl rfl rfl ?_
      refine L_yld (Y_extract (v := str (spre p)) rfl rfl) rfl rfl rfl ?_
      refine L_yld (Y_extract (v := str (snam p)) rfl rfl) rfl rfl rfl ?_
      refine L_yld (Y_extract (v := .bool (sok p)) rfl rfl) rfl rfl rfl ?_
      refine L_yld (Y_assign rfl) rfl rfl rfl ?_
      refine L_yld (Y_assign rfl) rfl rfl rfl ?_
      refine L_yld (Y_assign rfl) rfl rfl rfl ?_
      refine L_nil ?_
      refine X_then ?_
      refine W_sub _ (.cons (i := 10) rfl (.cons (i := 9) rfl (.cons (i := 8) rfl (.cons (i := 7) rfl (.cons (i := 6) rfl (.cons (i := 4) rfl (.cons (i := 3) rfl (.cons (i := 2) rfl (.cons (i := 1) rfl (.nil _)))))))))) ?_
      refine W_seq ?_
      refine W_seq ?_
      refine W_region ?_
      refine L_yld (Y_move rfl) rfl rfl rfl ?_
      refine L_nil ?_
      refine X_then ?_
      refine W_sub _ (.cons (i := 45) rfl (.cons (i := 9) rfl (.cons (i := 8) rfl (.cons (i := 7) rfl (.cons (i := 6) rfl (.cons (i := 4) rfl (.cons (i := 3) rfl (.cons (i := 2) rfl (.cons (i := 1) rfl (.nil _)))))))))) ?_
      refine W_split rfl (fun c2 => ?_) (fun c2 => ?_)
      · refine W_seq ?_
        refine W_region ?_
        refine L_yld (Y_move rfl) rfl rfl rfl ?_
        refine L_yld (Y_fieldAddr (off := 2) (by kernel_rfl) rfl rfl) rfl rfl rfl ?_
        refine L_dos (D_store (us := [str (spre p)]) (show _ = some 1 by kernel_rfl) rfl rfl rfl (by simp [Value.oneCell']) (hk24.ext (hx62.then' ha64.only ha64.ge hx62.size)) (by simp)) rfl rfl ?_
        rintro h37 hp65
        have hk66 : Blk h37 r4_2 [.int .u8 (byt [53, 48, 50, 49] (k).toNat), str [], str (spre p), str [], .int .i64 (m), .int .i64 0] := hp65.blk
        refine L_nil ?_
        refine X_then ?_
        refine W_sub _ (.cons (i := 9) rfl (.cons (i := 7) rfl (.cons (i := 6) rfl (.cons (i := 4) rfl (.cons (i := 3) rfl (.cons (i := 2) rfl (.cons (i := 1) rfl (.nil _)))))))) ?_
        refine W_region ?_
        refine L_yld (Y_move rfl) rfl rfl rfl ?_
        refine L_yld (Y_fieldAddr (off := 1) (by kernel_rfl) rfl rfl) rfl rfl rfl ?_
        refine L_dos (D_store (us := [str (snam p)]) (show _ = some 1 by kernel_rfl) rfl rfl rfl (by simp [Value.oneCell']) hk66 (by simp)) rfl rfl ?_
        rintro h38 hp67
        have hk68 : Blk h38 r4_2 [.int .u8 (byt [53, 48, 50, 49] (k).toNat), str (snam p), str (spre p), str [], .int .i64 (m), .int .i64 0] := hp67.blk
        refine L_nil ?_
        refine X_then ?_
        refine W_sub _ (.cons (i := 7) rfl (.cons (i := 6) rfl (.cons (i := 4) rfl (.cons (i := 3) rfl (.cons (i := 2) rfl (.cons (i := 1) rfl (.nil _))))))) ?_
        refine W_seq ?_
        refine W_seq ?_
        refine W_region ?_
        refine L_yld (Y_fieldAddr (off := 4) (by kernel_rfl) rfl rfl) rfl rfl rfl ?_
        refine L_yld (Y_ldblk Tryz.underlying2 rfl rfl (hk2.ext (((((((hn3.ext.trans hx5).trans hx22).then' hp23.only (by simp) (Nat.le_trans (Nat.le_trans hn3.ext.size hx5.size) q4_2l)).trans hx62).then' ha64.only ha64.ge (Nat.le_trans (Nat.le_trans (Nat.le_trans (Nat.le_trans hn3.ext.size hx5.size) hx22.size) hp23.only.size) hx62.size)).then' hp65.only (by simp) (Nat.le_trans (Nat.le_trans hn3.ext.size hx5.size) q4_2l)).then' hp67.only (by simp) (Nat.le_trans (Nat.le_trans hn3.ext.size hx5.size) q4_2l))) rfl) rfl rfl rfl ?_
        refine L_yld (Y_leq rfl rfl) rfl rfl rfl ?_
        refine L_nil ?_
        refine X_then ?_
        refine W_sub _ (.cons (i := 58) rfl (.cons (i := 7) rfl (.cons (i := 6) rfl (.cons (i := 4) rfl (.cons (i := 3) rfl (.cons (i := 2) rfl (.cons (i := 1) rfl (.nil _)))))))) ?_
        refine W_splitd rfl (fun c3 => ?_) (fun c3 => ?_)
        · refine W_region ?_
          refine L_yld (Y_fieldAddr (off := 4) (by kernel_rfl) rfl rfl) rfl rfl rfl ?_
          refine L_yld (Y_ldblk Tryz.underlying2 rfl rfl (hk2.ext (((((((hn3.ext.trans hx5).trans hx22).then' hp23.only (by simp) (Nat.le_trans (Nat.le_trans hn3.ext.size hx5.size) q4_2l)).trans hx62).then' ha64.only ha64.ge (Nat.le_trans (Nat.le_trans (Nat.le_trans (Nat.le_trans hn3.ext.size hx5.size) hx22.size) hp23.only.size) hx62.size)).then' hp65.only (by simp) (Nat.le_trans (Nat.le_trans hn3.ext.size hx5.size) q4_2l)).then' hp67.only (by simp) (Nat.le_trans (Nat.le_trans hn3.ext.size hx5.size) q4_2l))) rfl) rfl rfl rfl ?_
          refine L_yld (Y_fieldAddr (off := 5) (by kernel_rfl) rfl rfl) rfl rfl rfl ?_
          refine L_dos (D_store (us := [.int .i64 (z)]) (show _ = some 1 by kernel_rfl) rfl rfl rfl (by simp [Value.oneCell']) hk68 (by simp)) rfl rfl ?_
          rintro h39 hp69
          have hk70 : Blk h39 r4_2 [.int .u8 (byt [53, 48, 50, 49] (k).toNat), str (snam p), str (spre p), str [], .int .i64 (m), .int .i64 (z)] := hp69.blk
          refine L_nil ?_
          refine X_then ?_
          refine W_sub _ (.cons (i := 7) rfl (.cons (i := 6) rfl (.cons (i := 4) rfl (.cons (i := 3) rfl (.cons (i := 2) rfl (.nil _)))))) ?_
          refine W_seq ?_
          refine W_region ?_
          refine L_yld (Y_ldbox (us := [.int .u8 (byt [53, 48, 50, 49] (k).toNat), str (snam p), str (spre p), str [], .int .i64 (m), .int .i64 (z)]) Tryz.underlying45 rfl (show _ = some 6 by kernel_rfl) rfl hk70 rfl) rfl rfl rfl ?_
          refine L_yld (Y_move rfl) rfl rfl rfl ?_
          refine L_dos (D_store (us := [.int .u8 (byt [53, 48, 50, 49] (k).toNat), str (snam p), str (spre p), str [], .int .i64 (m), .int .i64 (z)]) (show _ = some 6 by kernel_rfl) rfl rfl rfl (by simp [Value.oneCell']) (hk4.ext (((((((hx5.trans hx22).then' hp23.only (by simp) (Nat.le_trans hx5.size q4_2l)).trans hx62).then' ha64.only ha64.ge (Nat.le_trans (Nat.le_trans (Nat.le_trans hx5.size hx22.size) hp23.only.size) hx62.size)).then' hp65.only (by simp) (Nat.le_trans hx5.size q4_2l)).then' hp67.only (by simp) (Nat.le_trans hx5.size q4_2l)).then' hp69.only (by simp) (Nat.le_trans hx5.size q4_2l))) (by simp)) rfl rfl ?_
          rintro h40 hp71
          have hk72 : Blk h40 h1.size [.int .u8 (byt [53, 48, 50, 49] (k).toNat), str (snam p), str (spre p), str [], .int .i64 (m), .int .i64 (z)] := hp71.blk
          refine L_yld (Y_assign rfl) rfl rfl rfl ?_
          refine L_yld (Y_assign rfl) rfl rfl rfl ?_
          refine L_nil ?_
          refine X_then ?_
          refine W_sub _ (.cons (i := 4) rfl (.cons (i := 3) rfl (.cons (i := 2) rfl (.nil _)))) ?_
          refine W_ret ?_
          refine X_retv3 rfl (RV.agg rfl Tryz.underlying45 rfl (show _ = some 6 by kernel_rfl) hk72) rfl rfl ?_
          have c1x : 100 < tg.length := by omega
          have c2x : sok p = true := c2
          have c3x : ¬ 8589934591 < z := by omega
          refine ⟨v63, ?_, ?_, ((((((((((hn1.ext.trans hn3.ext).trans hx5).trans hx22).then' hp23.only (by simp) (Nat.le_trans (Nat.le_trans (Nat.le_trans hn1.ext.size hn3.ext.size) hx5.size) q4_2l)).trans hx62).then' ha64.only ha64.ge (Nat.le_trans (Nat.le_trans (Nat.le_trans (Nat.le_trans (Nat.le_trans hn1.ext.size hn3.ext.size) hx5.size) hx22.size) hp23.only.size) hx62.size)).then' hp65.only (by simp) (Nat.le_trans (Nat.le_trans (Nat.le_trans hn1.ext.size hn3.ext.size) hx5.size) q4_2l)).then' hp67.only (by simp) (Nat.le_trans (Nat.le_trans (Nat.le_trans hn1.ext.size hn3.ext.size) hx5.size) q4_2l)).then' hp69.only (by simp) (Nat.le_trans (Nat.le_trans (Nat.le_trans hn1.ext.size hn3.ext.size) hx5.size) q4_2l)).then' hp71.only (by simp) hn1.ext.size)⟩
          · rw [e0, fT, fN, fP, fL, fM, fZ, if_pos rfl, if_pos rfl, if_pos rfl, if_pos rfl, if_pos rfl, if_pos rfl, if_pos c1x, if_neg c3x]; rfl
          · rw [e0, fR, if_pos rfl]; exact RowsO.congr ((((((ha64.own.only1 nsRec hp65.only (Nat.lt_of_lt_of_le q4_2.lt (Nat.le_trans hp23.only.size hx62.size))).only1 nsRec hp67.only (Nat.lt_of_lt_of_le q4_2.lt (Nat.le_trans hp23.only.size hx62.size))).only1 nsRec hp69.only (Nat.lt_of_lt_of_le q4_2.lt (Nat.le_trans hp23.only.size hx62.size))).only1 nsRec hp71.only (Nat.lt_of_lt_of_le hk4.lt (Nat.le_trans (Nat.le_trans (Nat.le_trans hx5.size hx22.size) hp23.only.size) hx62.size)))).low (Nat.le_trans (Nat.le_trans (Nat.le_trans (Nat.le_trans (Nat.le_trans hn1.ext.size hn3.ext.size) hx5.size) hx22.size) hp23.only.size) hx62.size)) (by simp [frecs, c1x, c2x, c3x])
        · refine W_region ?_
          refine L_yld (Y_move rfl) rfl rfl rfl ?_
          refine L_yld (Y_fieldAddr (off := 4) (by kernel_rfl) rfl rfl) rfl rfl rfl ?_
          refine L_yld (Y_ldblk Tryz.underlying2 rfl rfl (hk2.ext (((((((hn3.ext.trans hx5).trans hx22).then' hp23.only (by simp) (Nat.le_trans (Nat.le_trans hn3.ext.size hx5.size) q4_2l)).trans hx62).then' ha64.only ha64.ge (Nat.le_trans (Nat.le_trans (Nat.le_trans (Nat.le_trans hn3.ext.size hx5.size) hx22.size) hp23.only.size) hx62.size)).then' hp65.only (by simp) (Nat.le_trans (Nat.le_trans hn3.ext.size hx5.size) q4_2l)).then' hp67.only (by simp) (Nat.le_trans (Nat.le_trans hn3.ext.size hx5.size) q4_2l))) rfl) rfl rfl rfl ?_
          refine L_call (E_call (by kernel_rfl) rfl) (ref09_Decimal _ z (by first | first | omega | (simp; done) | (simp; omega) | rfl | (simp <;> omega))) rfl rfl rfl ?_
          rintro _ h41 ⟨rfl, hx73⟩
          refine L_yld (Y_build (v := .agg #[str [115, 105, 122, 101], str (Lib.decDigits z.toNat)]) (pv := [(0, str [115, 105, 122, 101]), (1, str (Lib.decDigits z.toNat))]) (evp (is := [0, 1]) (os := [.const (str [115, 105, 122, 101]), .tmp 65]) (vs := [str [115, 105, 122, 101], str (Lib.decDigits z.toNat)]) rfl rfl) (fun _ => by kernel_rfl)) rfl rfl rfl ?_
          refine L_mks (M_litr (S := recS) (l := [⟨[115, 105, 122, 101], Lib.decDigits z.toNat⟩]) (cells := [str [115, 105, 122, 101], str (Lib.decDigits z.toNat)]) (pv := [(0, .agg #[str [115, 105, 122, 101], str (Lib.decDigits z.toNat)])]) (E := 76) (evp (is := [0]) (os := [.tmp 66]) (vs := [.agg #[str [115, 105, 122, 101], str (Lib.decDigits z.toNat)]]) rfl rfl) rfl rfl (fun _ => by kernel_rfl) (by simp only [List.mem_cons, List.not_mem_nil, or_false, forall_eq_or_imp, forall_eq]; exact trivial)) rfl rfl rfl ?_
          rintro v74 h42 ⟨ho75, hx76⟩
          refine L_mks (M_appr0 nsRec (z := 2) (bytes := 32) (z0 := (.agg #[str [], str []])) Tryz.underlying37 (by unfold elemRow; kernel_rfl) rfl rfl (by decide) rfl rfl ((((ha64.own.only1 nsRec hp65.only (Nat.lt_of_lt_of_le q4_2.lt (Nat.le_trans hp23.only.size hx62.size))).only1 nsRec hp67.only (Nat.lt_of_lt_of_le q4_2.lt (Nat.le_trans hp23.only.size hx62.size))).ext hx73).ext hx76) ho75.rows (Nat.le_trans (Nat.le_trans (Nat.le_trans (Nat.le_trans ha64.only.size hp65.only.size) hp67.only.size) hx73.size) hx76.size) (by first | (simp; done) | (simp; omega))) rfl rfl rfl ?_
          rintro v77 h43 ha78
          refine L_yld (Y_assign rfl) rfl rfl rfl ?_
          refine L_nil ?_
          refine X_then ?_
          refine W_sub _ (.cons (i := 7) rfl (.cons (i := 6) rfl (.cons (i := 4) rfl (.cons (i := 3) rfl (.cons (i := 2) rfl (.nil _)))))) ?_
          refine W_seq ?_
          refine W_region ?_
          have hc79 := (((hk68.ext hx73).ext hx76).only ha78.only (fun hb_ => Nat.lt_irrefl _ (Nat.lt_of_lt_of_le (Nat.lt_of_lt_of_le q4_2.lt (Nat.le_trans hp23.only.size hx62.size)) (ha78.ge _ hb_))))
          refine L_yld (Y_ldbox (us := [.int .u8 (byt [53, 48, 50, 49] (k).toNat), str (snam p), str (spre p), str [], .int .i64 (m), .int .i64 0]) Tryz.underlying45 rfl (show _ = some 6 by kernel_rfl) rfl hc79 rfl) rfl rfl rfl ?_
          refine L_yld (Y_move rfl) rfl rfl rfl ?_
          refine L_dos (D_store (us := [.int .u8 (byt [53, 48, 50, 49] (k).toNat), str (snam p), str (spre p), str [], .int .i64 (m), .int .i64 0]) (show _ = some 6 by kernel_rfl) rfl rfl rfl (by simp [Value.oneCell']) (hk4.ext (((((((((hx5.trans hx22).then' hp23.only (by simp) (Nat.le_trans hx5.size q4_2l)).trans hx62).then' ha64.only ha64.ge (Nat.le_trans (Nat.le_trans (Nat.le_trans hx5.size hx22.size) hp23.only.size) hx62.size)).then' hp65.only (by simp) (Nat.le_trans hx5.size q4_2l)).then' hp67.only (by simp) (Nat.le_trans hx5.size q4_2l)).trans hx73).trans hx76).then' ha78.only ha78.ge (Nat.le_trans (Nat.le_trans (Nat.le_trans hx5.size hx22.size) hp23.only.size) hx62.size))) (by simp)) rfl rfl ?_
          rintro h44 hp80
          have hk81 : Blk h44 h1.size [.int .u8 (byt [53, 48, 50, 49] (k).toNat), str (snam p), str (spre p), str [], .int .i64 (m), .int .i64 0] := hp80.blk
          refine L_yld (Y_assign rfl) rfl rfl rfl ?_
          refine L_yld (Y_assign rfl) rfl rfl rfl ?_
          refine L_nil ?_
          refine X_then ?_
          refine W_sub _ (.cons (i := 4) rfl (.cons (i := 3) rfl (.cons (i := 2) rfl (.nil _)))) ?_
          refine W_ret ?_
          refine X_retv3 rfl (RV.agg rfl Tryz.underlying45 rfl (show _ = some 6 by kernel_rfl) hk81) rfl rfl ?_
          have c1x : 100 < tg.length := by omega
          have c2x : sok p = true := c2
          have c3x : 8589934591 < z := by omega
          refine ⟨v77, ?_, ?_, ((((((((((((hn1.ext.trans hn3.ext).trans hx5).trans hx22).then' hp23.only (by simp) (Nat.le_trans (Nat.le_trans (Nat.le_trans hn1.ext.size hn3.ext.size) hx5.size) q4_2l)).trans hx62).then' ha64.only ha64.ge (Nat.le_trans (Nat.le_trans (Nat.le_trans (Nat.le_trans (Nat.le_trans hn1.ext.size hn3.ext.size) hx5.size) hx22.size) hp23.only.size) hx62.size)).then' hp65.only (by simp) (Nat.le_trans (Nat.le_trans (Nat.le_trans hn1.ext.size hn3.ext.size) hx5.size) q4_2l)).then' hp67.only (by simp) (Nat.le_trans (Nat.le_trans (Nat.le_trans hn1.ext.size hn3.ext.size) hx5.size) q4_2l)).trans hx73).trans hx76).then' ha78.only ha78.ge (Nat.le_trans (Nat.le_trans (Nat.le_trans (Nat.le_trans (Nat.le_trans hn1.ext.size hn3.ext.size) hx5.size) hx22.size) hp23.only.size) hx62.size)).then' hp80.only (by simp) hn1.ext.size)⟩
          · rw [e0, fT, fN, fP, fL, fM, fZ, if_pos rfl, if_pos rfl, if_pos rfl, if_pos rfl, if_pos rfl, if_pos rfl, if_pos c1x, if_pos c3x]; rfl
          · rw [e0, fR, if_pos rfl]; exact RowsO.congr (((ha78.own.only1 nsRec hp80.only (Nat.lt_of_lt_of_le hk4.lt (Nat.le_trans (Nat.le_trans (Nat.le_trans hx5.size hx22.size) hp23.only.size) hx62.size)))).low (Nat.le_trans (Nat.le_trans (Nat.le_trans (Nat.le_trans (Nat.le_trans hn1.ext.size hn3.ext.size) hx5.size) hx22.size) hp23.only.size) hx62.size)) (by simp [frecs, c1x, c2x, c3x])
      · refine W_region ?_
        refine L_yld (Y_move rfl) rfl rfl rfl ?_
        refine L_yld (Y_fieldAddr (off := 1) (by kernel_rfl) rfl rfl) rfl rfl rfl ?_
        refine L_yld (Y_ldblk Tryz.underlying9 rfl rfl (hk2.ext (((((hn3.ext.trans hx5).trans hx22).then' hp23.only (by simp) (Nat.le_trans (Nat.le_trans hn3.ext.size hx5.size) q4_2l)).trans hx62).then' ha64.only ha64.ge (Nat.le_trans (Nat.le_trans (Nat.le_trans (Nat.le_trans hn3.ext.size hx5.size) hx22.size) hp23.only.size) hx62.size))) rfl) rfl rfl rfl ?_
        refine L_yld (Y_build (v := .agg #[str [112, 97, 116, 104], str p]) (pv := [(0, str [112, 97, 116, 104]), (1, str p)]) (evp (is := [0, 1]) (os := [.const (str [112, 97, 116, 104]), .tmp 52]) (vs := [str [112, 97, 116, 104], str p]) rfl rfl) (fun _ => by kernel_rfl)) rfl rfl rfl ?_
        refine L_mks (M_litr (S := recS) (l := [⟨[112, 97, 116, 104], p⟩]) (cells := [str [112, 97, 116, 104], str p]) (pv := [(0, .agg #[str [112, 97, 116, 104], str p])]) (E := 76) (evp (is := [0]) (os := [.tmp 53]) (vs := [.agg #[str [112, 97, 116, 104], str p]]) rfl rfl) rfl rfl (fun _ => by kernel_rfl) (by simp only [List.mem_cons, List.not_mem_nil, or_false, forall_eq_or_imp, forall_eq]; exact trivial)) rfl rfl rfl ?_
        rintro v82 h45 ⟨ho83, hx84⟩
        refine L_mks (M_appr0 nsRec (z := 2) (bytes := 32) (z0 := (.agg #[str [], str []])) Tryz.underlying37 (by unfold elemRow; kernel_rfl) rfl rfl (by decide) rfl rfl (ha64.own.ext hx84) ho83.rows (Nat.le_trans ha64.only.size hx84.size) (by first | (simp; done) | (simp; omega))) rfl rfl rfl ?_
        rintro v85 h46 ha86
        refine L_yld (Y_assign rfl) rfl rfl rfl ?_
        refine L_nil ?_
        refine X_then ?_
        refine W_sub _ (.cons (i := 7) rfl (.cons (i := 6) rfl (.cons (i := 4) rfl (.cons (i := 3) rfl (.cons (i := 2) rfl (.cons (i := 1) rfl (.nil _))))))) ?_
        refine W_seq ?_
        refine W_seq ?_
        refine W_region ?_
        refine L_yld (Y_fieldAddr (off := 4) (by kernel_rfl) rfl rfl) rfl rfl rfl ?_
        refine L_yld (Y_ldblk Tryz.underlying2 rfl rfl (hk2.ext (((((((hn3.ext.trans hx5).trans hx22).then' hp23.only (by simp) (Nat.le_trans (Nat.le_trans hn3.ext.size hx5.size) q4_2l)).trans hx62).then' ha64.only ha64.ge (Nat.le_trans (Nat.le_trans (Nat.le_trans (Nat.le_trans hn3.ext.size hx5.size) hx22.size) hp23.only.size) hx62.size)).trans hx84).then' ha86.only ha86.ge (Nat.le_trans (Nat.le_trans (Nat.le_trans (Nat.le_trans hn3.ext.size hx5.size) hx22.size) hp23.only.size) hx62.size))) rfl) rfl rfl rfl ?_
        refine L_yld (Y_leq rfl rfl) rfl rfl rfl ?_
        refine L_nil ?_
        refine X_then ?_
        refine W_sub _ (.cons (i := 58) rfl (.cons (i := 7) rfl (.cons (i := 6) rfl (.cons (i := 4) rfl (.cons (i := 3) rfl (.cons (i := 2) rfl (.cons (i := 1) rfl (.nil _)))))))) ?_
        refine W_splitd rfl (fun c3 => ?_) (fun c3 => ?_)
        · refine W_region ?_
          refine L_yld (Y_fieldAddr (off := 4) (by kernel_rfl) rfl rfl) rfl rfl rfl ?_
          refine L_yld (Y_ldblk Tryz.underlying2 rfl rfl (hk2.ext (((((((hn3.ext.trans hx5).trans hx22).then' hp23.only (by simp) (Nat.le_trans (Nat.le_trans hn3.ext.size hx5.size) q4_2l)).trans hx62).then' ha64.only ha64.ge (Nat.le_trans (Nat.le_trans (Nat.le_trans (Nat.le_trans hn3.ext.size hx5.size) hx22.size) hp23.only.size) hx62.size)).trans hx84).then' ha86.only ha86.ge (Nat.le_trans (Nat.le_trans (Nat.le_trans (Nat.le_trans hn3.ext.size hx5.size) hx22.size) hp23.only.size) hx62.size))) rfl) rfl rfl rfl ?_
          refine L_yld (Y_fieldAddr (off := 5) (by kernel_rfl) rfl rfl) rfl rfl rfl ?_
          refine L_dos (D_store (us := [.int .i64 (z)]) (show _ = some 1 by kernel_rfl) rfl rfl rfl (by simp [Value.oneCell']) (hk24.ext (((hx62.then' ha64.only ha64.ge hx62.size).trans hx84).then' ha86.only ha86.ge hx62.size)) (by simp)) rfl rfl ?_
          rintro h47 hp87
          have hk88 : Blk h47 r4_2 [.int .u8 (byt [53, 48, 50, 49] (k).toNat), str [], str [], str [], .int .i64 (m), .int .i64 (z)] := hp87.blk
          refine L_nil ?_
          refine X_then ?_
          refine W_sub _ (.cons (i := 7) rfl (.cons (i := 6) rfl (.cons (i := 4) rfl (.cons (i := 3) rfl (.cons (i := 2) rfl (.nil _)))))) ?_
          refine W_seq ?_
          refine W_region ?_
          refine L_yld (Y_ldbox (us := [.int .u8 (byt [53, 48, 50, 49] (k).toNat), str [], str [], str [], .int .i64 (m), .int .i64 (z)]) Tryz.underlying45 rfl (show _ = some 6 by kernel_rfl) rfl hk88 rfl) rfl rfl rfl ?_
          refine L_yld (Y_move rfl) rfl rfl rfl ?_
          refine L_dos (D_store (us := [.int .u8 (byt [53, 48, 50, 49] (k).toNat), str [], str [], str [], .int .i64 (m), .int .i64 (z)]) (show _ = some 6 by kernel_rfl) rfl rfl rfl (by simp [Value.oneCell']) (hk4.ext (((((((hx5.trans hx22).then' hp23.only (by simp) (Nat.le_trans hx5.size q4_2l)).trans hx62).then' ha64.only ha64.ge (Nat.le_trans (Nat.le_trans (Nat.le_trans hx5.size hx22.size) hp23.only.size) hx62.size)).trans hx84).then' ha86.only ha86.ge (Nat.le_trans (Nat.le_trans (Nat.le_trans hx5.size hx22.size) hp23.only.size) hx62.size)).then' hp87.only (by simp) (Nat.le_trans hx5.size q4_2l))) (by simp)) rfl rfl ?_
          rintro h48 hp89
          have hk90 : Blk h48 h1.size [.int .u8 (byt [53, 48, 50, 49] (k).toNat), str [], str [], str [], .int .i64 (m), .int .i64 (z)] := hp89.blk
          refine L_yld (Y_assign rfl) rfl rfl rfl ?_
          refine L_yld (Y_assign rfl) rfl rfl rfl ?_
          refine L_nil ?_
          refine X_then ?_
          refine W_sub _ (.cons (i := 4) rfl (.cons (i := 3) rfl (.cons (i := 2) rfl (.nil _)))) ?_
          refine W_ret ?_
          refine X_retv3 rfl (RV.agg rfl Tryz.underlying45 rfl (show _ = some 6 by kernel_rfl) hk90) rfl rfl ?_
          have c1x : 100 < tg.length := by omega
          have c2x : sok p = false := by simpa using c2
          have c3x : ¬ 8589934591 < z := by omega
          refine ⟨v85, ?_, ?_, ((((((((((hn1.ext.trans hn3.ext).trans hx5).trans hx22).then' hp23.only (by simp) (Nat.le_trans (Nat.le_trans (Nat.le_trans hn1.ext.size hn3.ext.size) hx5.size) q4_2l)).trans hx62).then' ha64.only ha64.ge (Nat.le_trans (Nat.le_trans (Nat.le_trans (Nat.le_trans (Nat.le_trans hn1.ext.size hn3.ext.size) hx5.size) hx22.size) hp23.only.size) hx62.size)).trans hx84).then' ha86.only ha86.ge (Nat.le_trans (Nat.le_trans (Nat.le_trans (Nat.le_trans (Nat.le_trans hn1.ext.size hn3.ext.size) hx5.size) hx22.size) hp23.only.size) hx62.size)).then' hp87.only (by simp) (Nat.le_trans (Nat.le_trans (Nat.le_trans hn1.ext.size hn3.ext.size) hx5.size) q4_2l)).then' hp89.only (by simp) hn1.ext.size)⟩
          · rw [e0, fT, fN, fP, fL, fM, fZ, if_pos rfl, if_pos rfl, if_pos rfl, if_pos rfl, if_pos rfl, if_pos rfl, if_pos c1x, if_neg c3x]; have sn := sok_nil c2x; rw [sn.1, sn.2]; rfl
          · rw [e0, fR, if_pos rfl]; exact RowsO.congr ((((ha86.own.only1 nsRec hp87.only (Nat.lt_of_lt_of_le q4_2.lt (Nat.le_trans hp23.only.size hx62.size))).only1 nsRec hp89.only (Nat.lt_of_lt_of_le hk4.lt (Nat.le_trans (Nat.le_trans (Nat.le_trans hx5.size hx22.size) hp23.only.size) hx62.size)))).low (Nat.le_trans (Nat.le_trans (Nat.le_trans (Nat.le_trans (Nat.le_trans hn1.ext.size hn3.ext.size) hx5.size) hx22.size) hp23.only.size) hx62.size)) (by simp [frecs, c1x, c2x, c3x])
        · refine W_region ?_
          refine L_yld (Y_move rfl) rfl rfl rfl ?_
          refine L_yld (Y_fieldAddr (off := 4) (by kernel_rfl) rfl rfl) rfl rfl rfl ?_
          refine L_yld (Y_ldblk Tryz.underlying2 rfl rfl (hk2.ext (((((((hn3.ext.trans hx5).trans hx22).then' hp23.only (by simp) (Nat.le_trans (Nat.le_trans hn3.ext.size hx5.size) q4_2l)).trans hx62).then' ha64.only ha64.ge (Nat.le_trans (Nat.le_trans (Nat.le_trans (Nat.le_trans hn3.ext.size hx5.size) hx22.size) hp23.only.size) hx62.size)).trans hx84).then' ha86.only ha86.ge (Nat.le_trans (Nat.le_trans (Nat.le_trans (Nat.le_trans hn3.ext.size hx5.size) hx22.size) hp23.only.size) hx62.size))) rfl) rfl rfl rfl ?_
          refine L_call (E_call (by kernel_rfl) rfl) (ref09_Decimal _ z (by first | first | omega | (simp; done) | (simp; omega) | rfl | (simp <;> omega))) rfl rfl rfl ?_
          rintro _ h49 ⟨rfl, hx91⟩
          refine L_yld (Y_build (v := .agg #[str [115, 105, 122, 101], str (Lib.decDigits z.toNat)]) (pv := [(0, str [115, 105, 122, 101]), (1, str (Lib.decDigits z.toNat))]) (evp (is := [0, 1]) (os := [.const (str [115, 105, 122, 101]), .tmp 65]) (vs := [str [115, 105, 122, 101], str (Lib.decDigits z.toNat)]) rfl rfl) (fun _ => by kernel_rfl)) rfl rfl rfl ?_
          refine L_mks (M_litr (S := recS) (l := [⟨[115, 105, 122, 101], Lib.decDigits z.toNat⟩]) (cells := [str [115, 105, 122, 101], str (Lib.decDigits z.toNat)]) (pv := [(0, .agg #[str [115, 105, 122, 101], str (Lib.decDigits z.toNat)])]) (E := 76) (evp (is := [0]) (os := [.tmp 66]) (vs := [.agg #[str [115, 105, 122, 101], str (Lib.decDigits z.toNat)]]) rfl rfl) rfl rfl (fun _ => by kernel_rfl) (by simp only [List.mem_cons, List.not_mem_nil, or_false, forall_eq_or_imp, forall_eq]; exact trivial)) rfl rfl rfl ?_
          rintro v92 h50 ⟨ho93, hx94⟩
          refine L_mks (M_appr0 nsRec (z := 2) (bytes := 32) (z0 := (.agg #[str [], str []])) Tryz.underlying37 (by unfold elemRow; kernel_rfl) rfl rfl (by decide) rfl rfl (ha86.own.ext (hx91.trans hx94)) ho93.rows (Nat.le_trans (Nat.le_trans (Nat.le_trans (Nat.le_trans ha64.only.size hx84.size) ha86.only.size) hx91.size) hx94.size) (by first | (simp; done) | (simp; omega))) rfl rfl rfl ?_
          rintro v95 h51 ha96
          refine L_yld (Y_assign rfl) rfl rfl rfl ?_
          refine L_nil ?_
          refine X_then ?_
          refine W_sub _ (.cons (i := 7) rfl (.cons (i := 6) rfl (.cons (i := 4) rfl (.cons (i := 3) rfl (.cons (i := 2) rfl (.nil _)))))) ?_
          refine W_seq ?_
          refine W_region ?_
          refine L_yld (Y_ldbox (us := [.int .u8 (byt [53, 48, 50, 49] (k).toNat), str [], str [], str [], .int .i64 (m), .int .i64 0]) Tryz.underlying45 rfl (show _ = some 6 by kernel_rfl) rfl (hk24.ext ((((((hx62.then' ha64.only ha64.ge hx62.size).trans hx84).then' ha86.only ha86.ge hx62.size).trans hx91).trans hx94).then' ha96.only ha96.ge hx62.size)) rfl) rfl rfl rfl ?_
          refine L_yld (Y_move rfl) rfl rfl rfl ?_
          refine L_dos (D_store (us := [.int .u8 (byt [53, 48, 50, 49] (k).toNat), str [], str [], str [], .int .i64 (m), .int .i64 0]) (show _ = some 6 by kernel_rfl) rfl rfl rfl (by simp [Value.oneCell']) (hk4.ext (((((((((hx5.trans hx22).then' hp23.only (by simp) (Nat.le_trans hx5.size q4_2l)).trans hx62).then' ha64.only ha64.ge (Nat.le_trans (Nat.le_trans (Nat.le_trans hx5.size hx22.size) hp23.only.size) hx62.size)).trans hx84).then' ha86.only ha86.ge (Nat.le_trans (Nat.le_trans (Nat.le_trans hx5.size hx22.size) hp23.only.size) hx62.size)).trans hx91).trans hx94).then' ha96.only ha96.ge (Nat.le_trans (Nat.le_trans (Nat.le_trans hx5.size hx22.size) hp23.only.size) hx62.size))) (by simp)) rfl rfl ?_
          rintro h52 hp97
          have hk98 : Blk h52 h1.size [.int .u8 (byt [53, 48, 50, 49] (k).toNat), str [], str [], str [], .int .i64 (m), .int .i64 0] := hp97.blk
          refine L_yld (Y_assign rfl) rfl rfl rfl ?_
          refine L_yld (Y_assign rfl) rfl rfl rfl ?_
          refine L_nil ?_
          refine X_then ?_
          refine W_sub _ (.cons (i := 4) rfl (.cons (i := 3) rfl (.cons (i := 2) rfl (.nil _)))) ?_
          refine W_ret ?_
          refine X_retv3 rfl (RV.agg rfl Tryz.underlying45 rfl (show _ = some 6 by kernel_rfl) hk98) rfl rfl ?_
          have c1x : 100 < tg.length := by omega
          have c2x : sok p = false := by simpa using c2
          have c3x : 8589934591 < z := by omega
          refine ⟨v95, ?_, ?_, ((((((((((((hn1.ext.trans hn3.ext).trans hx5).trans hx22).then' hp23.only (by simp) (Nat.le_trans (Nat.le_trans (Nat.le_trans hn1.ext.size hn3.ext.size) hx5.size) q4_2l)).trans hx62).then' ha64.only ha64.ge (Nat.le_trans (Nat.le_trans (Nat.le_trans (Nat.le_trans (Nat.le_trans hn1.ext.size hn3.ext.size) hx5.size) hx22.size) hp23.only.size) hx62.size)).trans hx84).then' ha86.only ha86.ge (Nat.le_trans (Nat.le_trans (Nat.le_trans (Nat.le_trans (Nat.le_trans hn1.ext.size hn3.ext.size) hx5.size) hx22.size) hp23.only.size) hx62.size)).trans hx91).trans hx94).then' ha96.only ha96.ge (Nat.le_trans (Nat.le_trans (Nat.le_trans (Nat.le_trans (Nat.le_trans hn1.ext.size hn3.ext.size) hx5.size) hx22.size) hp23.only.size) hx62.size)).then' hp97.only (by simp) hn1.ext.size)⟩
          · rw [e0, fT, fN, fP, fL, fM, fZ, if_pos rfl, if_pos rfl, if_pos rfl, if_pos rfl, if_pos rfl, if_pos rfl, if_pos c1x, if_pos c3x]; have sn := sok_nil c2x; rw [sn.1, sn.2]; rfl
          · rw [e0, fR, if_pos rfl]; exact RowsO.congr (((ha96.own.only1 nsRec hp97.only (Nat.lt_of_lt_of_le hk4.lt (Nat.le_trans (Nat.le_trans (Nat.le_trans hx5.size hx22.size) hp23.only.size) hx62.size)))).low (Nat.le_trans (Nat.le_trans (Nat.le_trans (Nat.le_trans (Nat.le_trans hn1.ext.size hn3.ext.size) hx5.size) hx22.size) hp23.only.size) hx62.size)) (by simp [frecs, c1x, c2x, c3x])
end Go.Xp
