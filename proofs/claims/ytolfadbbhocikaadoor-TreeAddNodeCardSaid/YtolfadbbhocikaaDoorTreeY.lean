/- Layer 13 (tree): adding a regular file. -/
import Derived.Test.YtolfadbbhocikaaDoorTreeV
import Derived.Test.YtolfadbbhocikaaDoorAppE
set_option linter.unusedSimpArgs false
set_option linter.unusedVariables false
set_option linter.unusedSectionVars false
namespace Go.Xp
open Go.Proofs

set_option maxRecDepth 100000 in
theorem treeAddNode (h : Heap) (hK : GlbK h) (hE : GlbE h) (w : Value) (l : List Nod) (hl : Rows nodS h w l) (q : List UInt8) (hn : l.length ≤ 140737488355328) (hs : ∀ x ∈ l, x.path.length ≤ 140737488355328 ∧ x.target.length ≤ 140737488355328 ∧ x.data.length ≤ 140737488355328) (hq : q.length ≤ 140737488355328) : Cal Tryd.prog 6 #[w, str q] h (fun v h' => v = .bool true ∧ Ext h h') := by
  refine Cal_enter (args := [w, str q]) Tryd.func6 rfl rfl rfl (fun σ => ?_)
  refine W_seq ?_
  refine W_region ?_
  refine L_yld (Y_assign rfl) rfl rfl rfl ?_
  refine L_nil ?_
  refine X_then ?_
  refine W_seq ?_
  refine W_cut (S := Unit) (fun _ => [(22, .bool (decide ((0 < (ntoo l)) ∨ (3000 < (q.length : Int))))), (4, .bool false), (0, w), (1, str q)]) (fun _ h' => Ext h h') ?_ ?_
  · refine W_region ?_
    refine L_yld (Y_move rfl) rfl rfl rfl ?_
    refine L_call (E_call (by kernel_rfl) rfl) (law13_TooLarge _ w l hl hn hs) rfl rfl rfl ?_
    rintro _ h1 ⟨rfl, hx1⟩
    refine L_yld (Y_gtr rfl rfl) rfl rfl rfl ?_
    refine L_yld (Y_move rfl) rfl rfl rfl ?_
    refine L_splitd (d := 18) rfl (fun c2 => ?_) (fun c2 => ?_)
    · refine L_skip rfl rfl rfl ?_
      refine L_skip rfl rfl rfl ?_
      refine L_skip rfl rfl rfl ?_
      refine L_yld (Y_pick_t rfl rfl) rfl rfl rfl ?_
      refine L_nil ?_
      exact X_cut () (.cons (i := 22) (lkb rfl (by simp only [eq_true c2, true_and, and_true, false_and, and_false, true_or, or_true, false_or, or_false, not_true_eq_false, not_false_eq_true, decide_true, decide_false, Bool.true_eq_false, Bool.false_eq_true, eq_self, Bool.decide_eq_true])) (.cons (i := 4) rfl (.cons (i := 0) rfl (.cons (i := 1) rfl (.nil _))))) hx1
    · refine L_yld (Y_move rfl) rfl rfl rfl ?_
      refine L_yld (Y_slen Tryd.underlying9 rfl) rfl rfl rfl ?_
      refine L_yld (Y_gtr rfl rfl) rfl rfl rfl ?_
      refine L_yld (Y_pick_f rfl rfl) rfl rfl rfl ?_
      refine L_nil ?_
      exact X_cut () (.cons (i := 22) (lkb rfl (by simp only [eq_false c2, true_and, and_true, false_and, and_false, true_or, or_true, false_or, or_false, not_true_eq_false, not_false_eq_true, decide_true, decide_false, Bool.true_eq_false, Bool.false_eq_true, eq_self, Bool.decide_eq_true])) (.cons (i := 4) rfl (.cons (i := 0) rfl (.cons (i := 1) rfl (.nil _))))) hx1
  rintro _ h2 hx3
  show W _ _ _ _ _ [(22, .bool (decide ((0 < (ntoo l)) ∨ (3000 < (q.length : Int))))), (4, .bool false), (0, w), (1, str q)] _
  refine W_splitd rfl (fun g => ?_) (fun g => ?_)
  · refine W_seq ?_
    refine W_region ?_
    refine L_call (E_call (by kernel_rfl) rfl) (law13_alive _ (hK.ext hx3) (hE.ext hx3)) rfl rfl rfl ?_
    rintro _ h3 ⟨rfl, hx4⟩
    refine L_yld (Y_assign rfl) rfl rfl rfl ?_
    refine L_nil ?_
    refine X_then ?_
    refine W_sub _ (.cons (i := 4) rfl (.cons (i := 0) rfl (.cons (i := 1) rfl (.nil _)))) ?_
    refine W_ret ?_
    refine X_then_ret ?_
    refine X_ret1 rfl rfl ?_
    exact ⟨rfl, (hx3.trans hx4)⟩
  · refine W_skip ?_
    refine X_then ?_
    refine W_sub _ (.cons (i := 4) rfl (.cons (i := 0) rfl (.cons (i := 1) rfl (.nil _)))) ?_
    refine W_seq ?_
    refine W_seq ?_
    refine W_region ?_
    refine L_yld (Y_move rfl) rfl rfl rfl ?_
    refine L_call (E_call (by kernel_rfl) rfl) (tree_Check _ (hK.ext hx3) (hE.ext hx3) w l (hl.ext hx3) hn hs) rfl rfl rfl ?_
    rintro _ h4 ⟨rfl, hx5⟩
    refine L_yld (Y_move rfl) rfl rfl rfl ?_
    refine L_yld (Y_extract (v := .int .i64 (tpos l)) rfl rfl) rfl rfl rfl ?_
    refine L_yld (Y_extract (v := .int .i64 (terr l)) rfl rfl) rfl rfl rfl ?_
    refine L_yld (Y_assign rfl) rfl rfl rfl ?_
    refine L_yld (Y_assign rfl) rfl rfl rfl ?_
    refine L_nil ?_
    refine X_then ?_
    refine W_sub _ (.cons (i := 6) rfl (.cons (i := 4) rfl (.cons (i := 0) rfl (.cons (i := 1) rfl (.nil _))))) ?_
    refine W_seq ?_
    refine W_region ?_
    refine L_yld (Y_move rfl) rfl rfl rfl ?_
    refine L_yld (Y_neq rfl rfl) rfl rfl rfl ?_
    refine L_nil ?_
    refine X_then ?_
    refine W_sub _ (.cons (i := 30) rfl (.cons (i := 4) rfl (.cons (i := 0) rfl (.cons (i := 1) rfl (.nil _))))) ?_
    refine W_splitd rfl (fun e => ?_) (fun e => ?_)
    · refine W_seq ?_
      refine W_region ?_
      refine L_call (E_call (by kernel_rfl) rfl) (law13_alive _ (hK.ext (hx3.trans hx5)) (hE.ext (hx3.trans hx5))) rfl rfl rfl ?_
      rintro _ h5 ⟨rfl, hx6⟩
      refine L_yld (Y_assign rfl) rfl rfl rfl ?_
      refine L_nil ?_
      refine X_then ?_
      refine W_sub _ (.cons (i := 4) rfl (.cons (i := 0) rfl (.cons (i := 1) rfl (.nil _)))) ?_
      refine W_ret ?_
      refine X_then_ret ?_
      refine X_ret1 rfl rfl ?_
      exact ⟨rfl, ((hx3.trans hx5).trans hx6)⟩
    · refine W_skip ?_
      refine X_then ?_
      refine W_sub _ (.cons (i := 4) rfl (.cons (i := 0) rfl (.cons (i := 1) rfl (.nil _)))) ?_
      have tok := tok_of (Classical.not_not.1 e)
      have hlen : l.length ≤ 40 := (ntoo_ok (fun h9 => g (.inl h9))).1
      refine W_seq ?_
      refine W_region ?_
      refine L_yld (Y_move rfl) rfl rfl rfl ?_
      refine L_yld (Y_move rfl) rfl rfl rfl ?_
      refine L_call (E_call (by kernel_rfl) rfl) (tree_Find _ w l (hl.ext (hx3.trans hx5)) q (by first | omega | rfl | (simp <;> omega))) rfl rfl rfl ?_
      rintro _ h6 ⟨rfl, hr07, hx8⟩
      refine L_yld (Y_move rfl) rfl rfl rfl ?_
      refine L_yld (Y_extract (v := .agg #[.int .i64 ((fnode l q).kind), str ((fnode l q).path), .int .i64 ((fnode l q).mode), str ((fnode l q).target), ((fnode l q).dv), .int .i64 ((fnode l q).cls)]) rfl rfl) rfl rfl rfl ?_
      refine L_yld (Y_extract (v := .bool (decide (pfirst l q < l.length))) rfl rfl) rfl rfl rfl ?_
      refine L_mks (M_alloc (u := .agg #[.int .i64 0, str [], .int .i64 0, str [], .slice none 0 0, .int .i64 0]) (by kernel_rfl)) rfl rfl rfl ?_
      rintro _ h7 ⟨rfl, hn9⟩
      have hk10 : Blk h7 h6.size [.int .i64 0, str [], .int .i64 0, str [], .slice none 0 0, .int .i64 0] := hn9.blk
      refine L_dos (D_store (us := [.int .i64 ((fnode l q).kind), str ((fnode l q).path), .int .i64 ((fnode l q).mode), str ((fnode l q).target), ((fnode l q).dv), .int .i64 ((fnode l q).cls)]) (show _ = some 6 by kernel_rfl) rfl rfl rfl (by intro u_ hu_; simp only [List.mem_cons, List.not_mem_nil, or_false] at hu_; rcases hu_ with rfl | rfl | rfl | rfl | rfl | rfl <;> first | rfl | exact ((hr07.ext hn9.ext)).cell1) hk10 (by simp)) rfl rfl ?_
      rintro h8 hp11
      have hk12 : Blk h8 h6.size [.int .i64 ((fnode l q).kind), str ((fnode l q).path), .int .i64 ((fnode l q).mode), str ((fnode l q).target), ((fnode l q).dv), .int .i64 ((fnode l q).cls)] := hp11.blk
      refine L_yld (Y_assign rfl) rfl rfl rfl ?_
      refine L_nil ?_
      refine X_then ?_
      refine W_sub _ (.cons (i := 8) rfl (.cons (i := 4) rfl (.cons (i := 0) rfl (.cons (i := 1) rfl (.nil _))))) ?_
      refine W_seq ?_
      refine W_region ?_
      refine L_yld (Y_move rfl) rfl rfl rfl ?_
      refine L_call (E_call (by kernel_rfl) rfl) (pathname_Parent _ q (by first | omega | rfl | (simp <;> omega))) rfl rfl rfl ?_
      rintro _ h8 ⟨rfl, rfl⟩
      refine L_yld (Y_assign rfl) rfl rfl rfl ?_
      refine L_nil ?_
      refine X_then ?_
      refine W_sub _ (.cons (i := 9) rfl (.cons (i := 8) rfl (.cons (i := 4) rfl (.cons (i := 0) rfl (.cons (i := 1) rfl (.nil _)))))) ?_
      refine W_seq ?_
      refine W_region ?_
      refine L_yld (Y_move rfl) rfl rfl rfl ?_
      refine L_yld (Y_move rfl) rfl rfl rfl ?_
      refine L_call (E_call (by kernel_rfl) rfl) (tree_Find _ w l (hl.ext ((((hx3.trans hx5).trans hx8).trans hn9.ext).then' hp11.only (by simp) (Nat.le_trans (Nat.le_trans hx3.size hx5.size) hx8.size))) (pparent q) (by first | omega | rfl | (simp <;> omega))) rfl rfl rfl ?_
      rintro _ h9 ⟨rfl, hr013, hx14⟩
      refine L_yld (Y_move rfl) rfl rfl rfl ?_
      refine L_yld (Y_extract (v := .agg #[.int .i64 ((fnode l (pparent q)).kind), str ((fnode l (pparent q)).path), .int .i64 ((fnode l (pparent q)).mode), str ((fnode l (pparent q)).target), ((fnode l (pparent q)).dv), .int .i64 ((fnode l (pparent q)).cls)]) rfl rfl) rfl rfl rfl ?_
      refine L_yld (Y_extract (v := .bool (decide (pfirst l (pparent q) < l.length))) rfl rfl) rfl rfl rfl ?_
      refine L_mks (M_alloc (u := .agg #[.int .i64 0, str [], .int .i64 0, str [], .slice none 0 0, .int .i64 0]) (by kernel_rfl)) rfl rfl rfl ?_
      rintro _ h10 ⟨rfl, hn15⟩
      have hk16 : Blk h10 h9.size [.int .i64 0, str [], .int .i64 0, str [], .slice none 0 0, .int .i64 0] := hn15.blk
      refine L_dos (D_store (us := [.int .i64 ((fnode l (pparent q)).kind), str ((fnode l (pparent q)).path), .int .i64 ((fnode l (pparent q)).mode), str ((fnode l (pparent q)).target), ((fnode l (pparent q)).dv), .int .i64 ((fnode l (pparent q)).cls)]) (show _ = some 6 by kernel_rfl) rfl rfl rfl (by intro u_ hu_; simp only [List.mem_cons, List.not_mem_nil, or_false] at hu_; rcases hu_ with rfl | rfl | rfl | rfl | rfl | rfl <;> first | rfl | exact ((hr013.ext hn15.ext)).cell1) hk16 (by simp)) rfl rfl ?_
      rintro h11 hp17
      have hk18 : Blk h11 h9.size [.int .i64 ((fnode l (pparent q)).kind), str ((fnode l (pparent q)).path), .int .i64 ((fnode l (pparent q)).mode), str ((fnode l (pparent q)).target), ((fnode l (pparent q)).dv), .int .i64 ((fnode l (pparent q)).cls)] := hp17.blk
      refine L_yld (Y_assign rfl) rfl rfl rfl ?_
      refine L_nil ?_
      refine X_then ?_
      refine W_sub _ (.cons (i := 11) rfl (.cons (i := 10) rfl (.cons (i := 9) rfl (.cons (i := 8) rfl (.cons (i := 4) rfl (.cons (i := 0) rfl (.cons (i := 1) rfl (.nil _)))))))) ?_
      refine W_seq ?_
      refine W_region ?_
      refine L_yld (Y_move rfl) rfl rfl rfl ?_
      refine L_call (E_call (by kernel_rfl) rfl) (pathname_Check _ q (by first | omega | rfl | (simp <;> omega))) rfl rfl rfl ?_
      rintro _ h12 ⟨rfl, hx19⟩
      refine L_yld (Y_assign rfl) rfl rfl rfl ?_
      refine L_nil ?_
      refine X_then ?_
      refine W_sub _ (.cons (i := 12) rfl (.cons (i := 11) rfl (.cons (i := 10) rfl (.cons (i := 9) rfl (.cons (i := 8) rfl (.cons (i := 4) rfl (.cons (i := 0) rfl (.cons (i := 1) rfl (.nil _))))))))) ?_
      refine W_cut (S := Unit) (fun _u => [(4, .bool false), (0, w), (1, str q), (12, .int .i64 ((wadd l q)))]) (fun _u h' => h' = h12) ?_ ?_
      · refine W_block ?_
        refine W_seq ?_
        refine W_region ?_
        refine L_yld (Y_move rfl) rfl rfl rfl ?_
        refine L_yld (Y_neq rfl rfl) rfl rfl rfl ?_
        refine L_yld (Y_assign rfl) rfl rfl rfl ?_
        refine L_nil ?_
        refine X_then ?_
        refine W_sub _ (.cons (i := 48) rfl (.cons (i := 12) rfl (.cons (i := 11) rfl (.cons (i := 10) rfl (.cons (i := 9) rfl (.cons (i := 8) rfl (.cons (i := 4) rfl (.cons (i := 0) rfl (.cons (i := 1) rfl (.nil _)))))))))) ?_
        refine W_splitd rfl (fun k => ?_) (fun k => ?_)
        · refine W_skip ?_
          refine X_block ?_
          refine X_cut (()) (.cons (i := 4) rfl (.cons (i := 0) rfl (.cons (i := 1) rfl (.cons (i := 12) (lki rfl (by unfold wadd; rw [if_pos k])) (.nil _))))) ?_
          first | rfl | exact ⟨rfl, rfl⟩
        · refine W_seq ?_
          refine W_region ?_
          refine L_yld (Y_move rfl) rfl rfl rfl ?_
          refine L_yld (Y_assign rfl) rfl rfl rfl ?_
          refine L_nil ?_
          refine X_then ?_
          refine W_sub _ (.cons (i := 51) rfl (.cons (i := 12) rfl (.cons (i := 11) rfl (.cons (i := 10) rfl (.cons (i := 9) rfl (.cons (i := 4) rfl (.cons (i := 0) rfl (.cons (i := 1) rfl (.nil _))))))))) ?_
          refine W_splitd rfl (fun f => ?_) (fun f => ?_)
          · refine W_region ?_
            refine L_yld (Y_assign rfl) rfl rfl rfl ?_
            refine L_nil ?_
            refine X_block ?_
            refine X_cut (()) (.cons (i := 4) rfl (.cons (i := 0) rfl (.cons (i := 1) rfl (.cons (i := 12) (lki rfl (by unfold wadd; rw [if_neg k, if_pos f])) (.nil _))))) ?_
            first | rfl | exact ⟨rfl, rfl⟩
          · refine W_cut (S := Unit) (fun _ => [(53, .bool (decide ((¬ (pparent q) = []) ∧ ((¬ (pfirst l (pparent q) < l.length)) ∨ (¬ ((fnode l (pparent q)).kind) = 0))))), (12, .int .i64 (pcheck q)), (4, .bool false), (0, w), (1, str q)]) (fun _ h' => h' = h12) ?_ ?_
            · refine W_region ?_
              refine L_yld (Y_move rfl) rfl rfl rfl ?_
              refine L_yld (Y_sneq rfl rfl) rfl rfl rfl ?_
              refine L_yld (Y_move rfl) rfl rfl rfl ?_
              refine L_splitd (d := 56) rfl (fun c20 => ?_) (fun c20 => ?_)
              · refine L_yld (Y_move rfl) rfl rfl rfl ?_
                refine L_yld (Y_notd rfl) rfl rfl rfl ?_
                refine L_yld (Y_move rfl) rfl rfl rfl ?_
                refine L_splitd (d := 59) rfl (fun c21 => ?_) (fun c21 => ?_)
                · refine L_skip rfl rfl rfl ?_
                  refine L_skip rfl rfl rfl ?_
                  refine L_skip rfl rfl rfl ?_
                  refine L_yld (Y_pick_t rfl rfl) rfl rfl rfl ?_
                  refine L_yld (Y_pick_t rfl rfl) rfl rfl rfl ?_
                  refine L_yld (Y_assign rfl) rfl rfl rfl ?_
                  refine L_nil ?_
                  exact X_cut () (.cons (i := 53) (lkb rfl (by simp only [eq_true c20, eq_true c21, true_and, and_true, false_and, and_false, true_or, or_true, false_or, or_false, not_true_eq_false, not_false_eq_true, decide_true, decide_false, Bool.true_eq_false, Bool.false_eq_true, eq_self, Bool.decide_eq_true])) (.cons (i := 12) rfl (.cons (i := 4) rfl (.cons (i := 0) rfl (.cons (i := 1) rfl (.nil _)))))) rfl
                · refine L_yld (Y_fieldAddr (off := 0) (by kernel_rfl) rfl rfl) rfl rfl rfl ?_
                  refine L_yld (Y_ldblk Tryd.underlying3 rfl rfl (hk18.ext hx19) rfl) rfl rfl rfl ?_
                  refine L_yld (Y_neq rfl rfl) rfl rfl rfl ?_
                  refine L_yld (Y_pick_f rfl rfl) rfl rfl rfl ?_
                  refine L_yld (Y_pick_t rfl rfl) rfl rfl rfl ?_
                  refine L_yld (Y_assign rfl) rfl rfl rfl ?_
                  refine L_nil ?_
                  exact X_cut () (.cons (i := 53) (lkb rfl (by simp only [eq_true c20, eq_false c21, true_and, and_true, false_and, and_false, true_or, or_true, false_or, or_false, not_true_eq_false, not_false_eq_true, decide_true, decide_false, Bool.true_eq_false, Bool.false_eq_true, eq_self, Bool.decide_eq_true])) (.cons (i := 12) rfl (.cons (i := 4) rfl (.cons (i := 0) rfl (.cons (i := 1) rfl (.nil _)))))) rfl
              · refine L_skip rfl rfl rfl ?_
                refine L_skip rfl rfl rfl ?_
                refine L_skip rfl rfl rfl ?_
                refine L_skip rfl rfl rfl ?_
                refine L_skip rfl rfl rfl ?_
                refine L_skip rfl rfl rfl ?_
                refine L_skip rfl rfl rfl ?_
                refine L_yld (Y_pick_f rfl rfl) rfl rfl rfl ?_
                refine L_yld (Y_assign rfl) rfl rfl rfl ?_
                refine L_nil ?_
                exact X_cut () (.cons (i := 53) (lkb rfl (by simp only [eq_false c20, true_and, and_true, false_and, and_false, true_or, or_true, false_or, or_false, not_true_eq_false, not_false_eq_true, decide_true, decide_false, Bool.true_eq_false, Bool.false_eq_true, eq_self, Bool.decide_eq_true])) (.cons (i := 12) rfl (.cons (i := 4) rfl (.cons (i := 0) rfl (.cons (i := 1) rfl (.nil _)))))) rfl
            rintro _ h12 rfl
            show W _ _ _ _ _ [(53, .bool (decide ((¬ (pparent q) = []) ∧ ((¬ (pfirst l (pparent q) < l.length)) ∨ (¬ ((fnode l (pparent q)).kind) = 0))))), (12, .int .i64 (pcheck q)), (4, .bool false), (0, w), (1, str q)] _
            refine W_splitd rfl (fun p => ?_) (fun p => ?_)
            · refine W_region ?_
              refine L_yld (Y_assign rfl) rfl rfl rfl ?_
              refine L_nil ?_
              refine X_block ?_
              refine X_cut (()) (.cons (i := 4) rfl (.cons (i := 0) rfl (.cons (i := 1) rfl (.cons (i := 12) (lki rfl (by unfold wadd; rw [if_neg k, if_neg f, if_pos p])) (.nil _))))) ?_
              first | rfl | exact ⟨rfl, rfl⟩
            · refine W_skip ?_
              refine X_block ?_
              refine X_cut (()) (.cons (i := 4) rfl (.cons (i := 0) rfl (.cons (i := 1) rfl (.cons (i := 12) (lki rfl (by unfold wadd; rw [if_neg k, if_neg f, if_neg p]; exact Classical.not_not.1 k)) (.nil _))))) ?_
              first | rfl | exact ⟨rfl, rfl⟩
      · rintro _u h12 rfl
        show W _ _ _ _ _ [(4, .bool false), (0, w), (1, str q), (12, .int .i64 ((wadd l q)))] _
        refine W_seq ?_
        refine W_region ?_
        refine L_mks (M_litr0 (S := nodS) (cells := []) (E := 30) rfl rfl (fun _ => by kernel_rfl)) rfl rfl rfl ?_
        rintro v22 h13 ⟨ho23, hx24⟩
        refine L_yld (Y_move rfl) rfl rfl rfl ?_
        refine L_mks (M_appe (z := 6) (bytes := 80) (z0 := (.agg #[.int .i64 0, str [], .int .i64 0, str [], .slice none 0 0, .int .i64 0])) Tryd.underlying22 (by unfold elemRow; kernel_rfl) rfl rfl (by decide) rfl rfl ho23 (hl.ext (((((((((hx3.trans hx5).trans hx8).trans hn9.ext).then' hp11.only (by simp) (Nat.le_trans (Nat.le_trans hx3.size hx5.size) hx8.size)).trans hx14).trans hn15.ext).then' hp17.only (by simp) (Nat.le_trans (Nat.le_trans (Nat.le_trans (Nat.le_trans (Nat.le_trans hx3.size hx5.size) hx8.size) hn9.ext.size) hp11.only.size) hx14.size)).trans hx19).trans hx24)) hx24.size (by first | (simp; done) | (simp; omega) | omega)) rfl rfl rfl ?_
        rintro v25 h14 ⟨ho26, hx27⟩
        refine L_yld (Y_move rfl) rfl rfl rfl ?_
        refine L_yld (Y_build (v := .agg #[.int .i64 1, str q, .int .i64 0, str [], .slice none 0 0, .int .i64 0]) (pv := [(0, .int .i64 1), (1, str q)]) (evp (is := [0, 1]) (os := [.const (.int .i64 1), .tmp 69]) (vs := [.int .i64 1, str q]) rfl rfl) (fun _ => by kernel_rfl)) rfl rfl rfl ?_
        refine L_mks (M_litr (S := nodS) (l := ([⟨(1 : Int), q, (0 : Int), [], .slice none 0 0, ([] : List UInt8), (0 : Int)⟩] : List Nod)) (cells := [.int .i64 1, str q, .int .i64 0, str [], .slice none 0 0, .int .i64 0]) (pv := [(0, .agg #[.int .i64 1, str q, .int .i64 0, str [], .slice none 0 0, .int .i64 0])]) (E := 30) (evp (is := [0]) (os := [.tmp 70]) (vs := [.agg #[.int .i64 1, str q, .int .i64 0, str [], .slice none 0 0, .int .i64 0]]) rfl rfl) rfl rfl (fun _ => by kernel_rfl) (by simp only [List.mem_cons, List.not_mem_nil, or_false, forall_eq_or_imp, forall_eq]; exact (Bytes.nil _))) rfl rfl rfl ?_
        rintro v28 h15 ⟨ho29, hx30⟩
        refine L_mks (M_apprO (z := 6) (bytes := 80) (z0 := (.agg #[.int .i64 0, str [], .int .i64 0, str [], .slice none 0 0, .int .i64 0])) Tryd.underlying22 (by unfold elemRow; kernel_rfl) rfl rfl (by decide) rfl rfl (ho26.ext hx30) ho29.rows (Nat.le_trans (Nat.le_trans hx24.size hx27.size) hx30.size) (by first | (simp; done) | (simp; omega) | omega) (((((((((((hx3.trans hx5).trans hx8).trans hn9.ext).then' hp11.only (by simp) (Nat.le_trans (Nat.le_trans hx3.size hx5.size) hx8.size)).trans hx14).trans hn15.ext).then' hp17.only (by simp) (Nat.le_trans (Nat.le_trans (Nat.le_trans (Nat.le_trans (Nat.le_trans hx3.size hx5.size) hx8.size) hn9.ext.size) hp11.only.size) hx14.size)).trans hx19).trans hx24).trans hx27).trans hx30) (Nat.le_trans (Nat.le_trans (Nat.le_trans (Nat.le_trans (Nat.le_trans (Nat.le_trans (Nat.le_trans (Nat.le_trans hx3.size hx5.size) hx8.size) hn9.ext.size) hp11.only.size) hx14.size) hn15.ext.size) hp17.only.size) hx19.size) (fun x hx => hl.2 x hx) (fun x hx => by rw [List.mem_singleton.1 hx]; exact Bytes.nil _)) rfl rfl rfl ?_
        rintro v31 h16 ha32
        refine L_call (E_call (by kernel_rfl) rfl) (tree_Check _ (hK.ext ((((((((((((hx3.trans hx5).trans hx8).trans hn9.ext).then' hp11.only (by simp) (Nat.le_trans (Nat.le_trans hx3.size hx5.size) hx8.size)).trans hx14).trans hn15.ext).then' hp17.only (by simp) (Nat.le_trans (Nat.le_trans (Nat.le_trans (Nat.le_trans (Nat.le_trans hx3.size hx5.size) hx8.size) hn9.ext.size) hp11.only.size) hx14.size)).trans hx19).trans hx24).trans hx27).trans hx30).then' ha32.only ha32.ge (Nat.le_trans (Nat.le_trans (Nat.le_trans (Nat.le_trans (Nat.le_trans (Nat.le_trans (Nat.le_trans (Nat.le_trans hx3.size hx5.size) hx8.size) hn9.ext.size) hp11.only.size) hx14.size) hn15.ext.size) hp17.only.size) hx19.size))) (hE.ext ((((((((((((hx3.trans hx5).trans hx8).trans hn9.ext).then' hp11.only (by simp) (Nat.le_trans (Nat.le_trans hx3.size hx5.size) hx8.size)).trans hx14).trans hn15.ext).then' hp17.only (by simp) (Nat.le_trans (Nat.le_trans (Nat.le_trans (Nat.le_trans (Nat.le_trans hx3.size hx5.size) hx8.size) hn9.ext.size) hp11.only.size) hx14.size)).trans hx19).trans hx24).trans hx27).trans hx30).then' ha32.only ha32.ge (Nat.le_trans (Nat.le_trans (Nat.le_trans (Nat.le_trans (Nat.le_trans (Nat.le_trans (Nat.le_trans (Nat.le_trans hx3.size hx5.size) hx8.size) hn9.ext.size) hp11.only.size) hx14.size) hn15.ext.size) hp17.only.size) hx19.size))) v31 (l ++ ([⟨(1 : Int), q, (0 : Int), [], .slice none 0 0, ([] : List UInt8), (0 : Int)⟩] : List Nod)) ha32.own.rows (by simp; omega) (fun x hx => (List.mem_append.1 hx).elim (hs x) (fun h9 => by rw [List.mem_singleton.1 h9]; exact ⟨hq, by show 0 ≤ _; decide, by show 0 ≤ _; decide⟩))) rfl rfl rfl ?_
        rintro _ h17 ⟨rfl, hx33⟩
        refine L_yld (Y_move rfl) rfl rfl rfl ?_
        refine L_yld (Y_extract (v := .int .i64 (tpos (l ++ ([⟨(1 : Int), q, (0 : Int), [], .slice none 0 0, ([] : List UInt8), (0 : Int)⟩] : List Nod)))) rfl rfl) rfl rfl rfl ?_
        refine L_yld (Y_extract (v := .int .i64 (terr (l ++ ([⟨(1 : Int), q, (0 : Int), [], .slice none 0 0, ([] : List UInt8), (0 : Int)⟩] : List Nod)))) rfl rfl) rfl rfl rfl ?_
        refine L_yld (Y_assign rfl) rfl rfl rfl ?_
        refine L_yld (Y_assign rfl) rfl rfl rfl ?_
        refine L_nil ?_
        refine X_then ?_
        refine W_sub _ (.cons (i := 14) rfl (.cons (i := 13) rfl (.cons (i := 4) rfl (.cons (i := 0) rfl (.cons (i := 12) rfl (.nil _)))))) ?_
        have hr := add_res tok q
        refine W_seq ?_
        refine W_region ?_
        refine L_call (E_call (by kernel_rfl) rfl) (law13_alive _ (hK.ext (((((((((((((hx3.trans hx5).trans hx8).trans hn9.ext).then' hp11.only (by simp) (Nat.le_trans (Nat.le_trans hx3.size hx5.size) hx8.size)).trans hx14).trans hn15.ext).then' hp17.only (by simp) (Nat.le_trans (Nat.le_trans (Nat.le_trans (Nat.le_trans (Nat.le_trans hx3.size hx5.size) hx8.size) hn9.ext.size) hp11.only.size) hx14.size)).trans hx19).trans hx24).trans hx27).trans hx30).then' ha32.only ha32.ge (Nat.le_trans (Nat.le_trans (Nat.le_trans (Nat.le_trans (Nat.le_trans (Nat.le_trans (Nat.le_trans (Nat.le_trans hx3.size hx5.size) hx8.size) hn9.ext.size) hp11.only.size) hx14.size) hn15.ext.size) hp17.only.size) hx19.size)).trans hx33)) (hE.ext (((((((((((((hx3.trans hx5).trans hx8).trans hn9.ext).then' hp11.only (by simp) (Nat.le_trans (Nat.le_trans hx3.size hx5.size) hx8.size)).trans hx14).trans hn15.ext).then' hp17.only (by simp) (Nat.le_trans (Nat.le_trans (Nat.le_trans (Nat.le_trans (Nat.le_trans hx3.size hx5.size) hx8.size) hn9.ext.size) hp11.only.size) hx14.size)).trans hx19).trans hx24).trans hx27).trans hx30).then' ha32.only ha32.ge (Nat.le_trans (Nat.le_trans (Nat.le_trans (Nat.le_trans (Nat.le_trans (Nat.le_trans (Nat.le_trans (Nat.le_trans hx3.size hx5.size) hx8.size) hn9.ext.size) hp11.only.size) hx14.size) hn15.ext.size) hp17.only.size) hx19.size)).trans hx33))) rfl rfl rfl ?_
        rintro _ h18 ⟨rfl, hx34⟩
        refine L_yld (Y_move rfl) rfl rfl rfl ?_
        refine L_yld (Y_move rfl) rfl rfl rfl ?_
        refine L_yld (Y_move rfl) rfl rfl rfl ?_
        refine L_yld (Y_eql rfl rfl) rfl rfl rfl ?_
        refine L_yld (Y_pick_t rfl rfl) rfl rfl rfl ?_
        refine L_yld (Y_move rfl) rfl rfl rfl ?_
        refine L_known (d := 82) true rfl (by exact decide_eq_true (by exact hr.1)) ?_
        refine L_yld (Y_move rfl) rfl rfl rfl ?_
        refine L_yld (Y_eql rfl rfl) rfl rfl rfl ?_
        refine L_yld (Y_move rfl) rfl rfl rfl ?_
        refine L_splitd (d := 85) rfl (fun z => ?_) (fun z => ?_)
        · refine L_yld (Y_move rfl) rfl rfl rfl ?_
          refine L_yld (Y_move rfl) rfl rfl rfl ?_
          refine L_yld (Y_lenr Tryd.underlying22 rfl (hl.ext ((((((((((((((hx3.trans hx5).trans hx8).trans hn9.ext).then' hp11.only (by simp) (Nat.le_trans (Nat.le_trans hx3.size hx5.size) hx8.size)).trans hx14).trans hn15.ext).then' hp17.only (by simp) (Nat.le_trans (Nat.le_trans (Nat.le_trans (Nat.le_trans (Nat.le_trans hx3.size hx5.size) hx8.size) hn9.ext.size) hp11.only.size) hx14.size)).trans hx19).trans hx24).trans hx27).trans hx30).then' ha32.only ha32.ge (Nat.le_trans (Nat.le_trans (Nat.le_trans (Nat.le_trans (Nat.le_trans (Nat.le_trans (Nat.le_trans (Nat.le_trans hx3.size hx5.size) hx8.size) hn9.ext.size) hp11.only.size) hx14.size) hn15.ext.size) hp17.only.size) hx19.size)).trans hx33).trans hx34))) rfl rfl rfl ?_
          refine L_yld (Y_add rfl rfl (by omega) (by omega)) rfl rfl rfl ?_
          refine L_yld (Y_eql rfl rfl) rfl rfl rfl ?_
          refine L_yld (Y_pick_t rfl rfl) rfl rfl rfl ?_
          refine L_yld (Y_move rfl) rfl rfl rfl ?_
          refine L_known (d := 92) true rfl (by exact decide_eq_true (by exact hr.2.trans (if_pos (hr.1.symm.trans z)))) ?_
          refine L_skip rfl rfl rfl ?_
          refine L_skip rfl rfl rfl ?_
          refine L_skip rfl rfl rfl ?_
          refine L_skip rfl rfl rfl ?_
          refine L_skip rfl rfl rfl ?_
          refine L_skip rfl rfl rfl ?_
          refine L_skip rfl rfl rfl ?_
          refine L_skip rfl rfl rfl ?_
          refine L_yld (Y_pick_t rfl rfl) rfl rfl rfl ?_
          refine L_yld (Y_pick_t rfl rfl) rfl rfl rfl ?_
          refine L_yld (Y_assign rfl) rfl rfl rfl ?_
          refine L_nil ?_
          refine X_then ?_
          refine W_sub _ (.cons (i := 4) rfl (.nil _)) ?_
          refine W_ret ?_
          refine X_ret1 rfl rfl ?_
          exact ⟨rfl, ((((((((((((((hx3.trans hx5).trans hx8).trans hn9.ext).then' hp11.only (by simp) (Nat.le_trans (Nat.le_trans hx3.size hx5.size) hx8.size)).trans hx14).trans hn15.ext).then' hp17.only (by simp) (Nat.le_trans (Nat.le_trans (Nat.le_trans (Nat.le_trans (Nat.le_trans hx3.size hx5.size) hx8.size) hn9.ext.size) hp11.only.size) hx14.size)).trans hx19).trans hx24).trans hx27).trans hx30).then' ha32.only ha32.ge (Nat.le_trans (Nat.le_trans (Nat.le_trans (Nat.le_trans (Nat.le_trans (Nat.le_trans (Nat.le_trans (Nat.le_trans hx3.size hx5.size) hx8.size) hn9.ext.size) hp11.only.size) hx14.size) hn15.ext.size) hp17.only.size) hx19.size)).trans hx33).trans hx34)⟩
        · refine L_skip rfl rfl rfl ?_
          refine L_skip rfl rfl rfl ?_
          refine L_skip rfl rfl rfl ?_
          refine L_skip rfl rfl rfl ?_
          refine L_skip rfl rfl rfl ?_
          refine L_yld (Y_pick_f rfl rfl) rfl rfl rfl ?_
          refine L_yld (Y_move rfl) rfl rfl rfl ?_
          refine L_yld (Y_move rfl) rfl rfl rfl ?_
          refine L_yld (Y_neq rfl rfl) rfl rfl rfl ?_
          refine L_yld (Y_move rfl) rfl rfl rfl ?_
          refine L_known (d := 95) true rfl (by exact decide_eq_true (by exact z)) ?_
          refine L_yld (Y_move rfl) rfl rfl rfl ?_
          refine L_yld (Y_move rfl) rfl rfl rfl ?_
          refine L_yld (Y_lenr Tryd.underlying22 rfl (hl.ext ((((((((((((((hx3.trans hx5).trans hx8).trans hn9.ext).then' hp11.only (by simp) (Nat.le_trans (Nat.le_trans hx3.size hx5.size) hx8.size)).trans hx14).trans hn15.ext).then' hp17.only (by simp) (Nat.le_trans (Nat.le_trans (Nat.le_trans (Nat.le_trans (Nat.le_trans hx3.size hx5.size) hx8.size) hn9.ext.size) hp11.only.size) hx14.size)).trans hx19).trans hx24).trans hx27).trans hx30).then' ha32.only ha32.ge (Nat.le_trans (Nat.le_trans (Nat.le_trans (Nat.le_trans (Nat.le_trans (Nat.le_trans (Nat.le_trans (Nat.le_trans hx3.size hx5.size) hx8.size) hn9.ext.size) hp11.only.size) hx14.size) hn15.ext.size) hp17.only.size) hx19.size)).trans hx33).trans hx34))) rfl rfl rfl ?_
          refine L_yld (Y_eql rfl rfl) rfl rfl rfl ?_
          refine L_yld (Y_pick_t rfl rfl) rfl rfl rfl ?_
          refine L_yld (Y_pick_f rfl rfl) rfl rfl rfl ?_
          refine L_yld (Y_pick_t rfl rfl) rfl rfl rfl ?_
          refine L_yld (Y_assign rfl) rfl rfl rfl ?_
          refine L_nil ?_
          refine X_then ?_
          refine W_sub _ (.cons (i := 4) rfl (.nil _)) ?_
          refine W_ret ?_
          refine X_ret1 rfl rfl ?_
          exact ⟨congrArg Value.bool (decide_eq_true (hr.2.trans (if_neg (fun h9 => z (hr.1.trans h9))))), ((((((((((((((hx3.trans hx5).trans hx8).trans hn9.ext).then' hp11.only (by simp) (Nat.le_trans (Nat.le_trans hx3.size hx5.size) hx8.size)).trans hx14).trans hn15.ext).then' hp17.only (by simp) (Nat.le_trans (Nat.le_trans (Nat.le_trans (Nat.le_trans (Nat.le_trans hx3.size hx5.size) hx8.size) hn9.ext.size) hp11.only.size) hx14.size)).trans hx19).trans hx24).trans hx27).trans hx30).then' ha32.only ha32.ge (Nat.le_trans (Nat.le_trans (Nat.le_trans (Nat.le_trans (Nat.le_trans (Nat.le_trans (Nat.le_trans (Nat.le_trans hx3.size hx5.size) hx8.size) hn9.ext.size) hp11.only.size) hx14.size) hn15.ext.size) hp17.only.size) hx19.size)).trans hx33).trans hx34)⟩
end Go.Xp
