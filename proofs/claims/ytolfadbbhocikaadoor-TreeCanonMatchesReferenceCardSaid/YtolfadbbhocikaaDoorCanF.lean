/- Layer 13 (tree): Canon and Equal match the reference. -/
import Derived.Test.YtolfadbbhocikaaDoorCanE
set_option linter.unusedSimpArgs false
set_option linter.unusedVariables false
set_option linter.unusedSectionVars false
namespace Go.Xp
open Go.Proofs

theorem can_okl {A : List Nod} (h : ¬ 0 < ntoo A) : A.length ≤ 40 ∧ A.length ≤ 1000000000 ∧ ∀ x ∈ A, x.path.length ≤ 100000000000 ∧ x.target.length ≤ 100000000000 ∧ x.data.length ≤ 100000000000 := by
  obtain ⟨h1, h2⟩ := ntoo_ok h
  refine ⟨h1, by omega, fun x hx => ?_⟩
  obtain ⟨k, hk, rfl⟩ := List.getElem_of_mem hx
  have := h2 k hk
  unfold nb at_nod at this
  rw [List.getD_eq_getElem?_getD, List.getElem?_eq_getElem hk] at this
  simp only [Option.getD_some] at this
  omega
set_option maxRecDepth 100000 in
theorem treeCanonMatchesReference (h : Heap) (hK : GlbK h) (hE : GlbE h) (v : Value) (A : List Nod) (ha : Rows nodS h v A) (u : Value) (B : List Nod) (hb : Rows nodS h u B) (hn1 : A.length ≤ 140737488355328) (hs1 : ∀ x ∈ A, x.path.length ≤ 140737488355328 ∧ x.target.length ≤ 140737488355328 ∧ x.data.length ≤ 140737488355328) (hn2 : B.length ≤ 140737488355328) (hs2 : ∀ x ∈ B, x.path.length ≤ 140737488355328 ∧ x.target.length ≤ 140737488355328 ∧ x.data.length ≤ 140737488355328) : Cal Tryd.prog 8 #[v, u] h (fun v h' => v = .bool true ∧ Ext h h') := by
  refine Cal_enter (args := [v, u]) Tryd.func8 rfl rfl rfl (fun σ => ?_)
  refine W_seq ?_
  refine W_region ?_
  refine L_yld (Y_assign rfl) rfl rfl rfl ?_
  refine L_nil ?_
  refine X_then ?_
  refine W_seq ?_
  refine W_cut (S := Unit) (fun _ => [(12, .bool (decide ((0 < (ntoo A)) ∨ (0 < (ntoo B))))), (4, .bool false), (0, v), (1, u)]) (fun _ h' => Ext h h') ?_ ?_
  · refine W_region ?_
    refine L_yld (Y_move rfl) rfl rfl rfl ?_
    refine L_call (E_call (by kernel_rfl) rfl) (law13_TooLarge _ v A ha hn1 hs1) rfl rfl rfl ?_
    rintro _ h1 ⟨rfl, hx1⟩
    refine L_yld (Y_gtr rfl rfl) rfl rfl rfl ?_
    refine L_yld (Y_move rfl) rfl rfl rfl ?_
    refine L_splitd (d := 8) rfl (fun g0 => ?_) (fun g0 => ?_)
    · refine L_skip rfl rfl rfl ?_
      refine L_skip rfl rfl rfl ?_
      refine L_skip rfl rfl rfl ?_
      refine L_yld (Y_pick_t rfl rfl) rfl rfl rfl ?_
      refine L_nil ?_
      exact X_cut () (.cons (i := 12) (lkb rfl (by first | (simp only [eq_true g0, true_and, and_true, false_and, and_false, true_or, or_true, false_or, or_false, not_true_eq_false, not_false_eq_true, decide_true, decide_false, Bool.true_eq_false, Bool.false_eq_true, eq_self, Bool.decide_eq_true]; done) | (simp only [eq_true g0, true_and, and_true, false_and, and_false, true_or, or_true, false_or, or_false, not_true_eq_false, not_false_eq_true, decide_true, decide_false, Bool.true_eq_false, Bool.false_eq_true, eq_self, Bool.decide_eq_true]; rfl))) (.cons (i := 4) rfl (.cons (i := 0) rfl (.cons (i := 1) rfl (.nil _))))) hx1
    · refine L_yld (Y_move rfl) rfl rfl rfl ?_
      refine L_call (E_call (by kernel_rfl) rfl) (law13_TooLarge _ u B (hb.ext hx1) hn2 hs2) rfl rfl rfl ?_
      rintro _ h2 ⟨rfl, hx2⟩
      refine L_yld (Y_gtr rfl rfl) rfl rfl rfl ?_
      refine L_yld (Y_pick_f rfl rfl) rfl rfl rfl ?_
      refine L_nil ?_
      exact X_cut () (.cons (i := 12) (lkb rfl (by first | (simp only [eq_false g0, true_and, and_true, false_and, and_false, true_or, or_true, false_or, or_false, not_true_eq_false, not_false_eq_true, decide_true, decide_false, Bool.true_eq_false, Bool.false_eq_true, eq_self, Bool.decide_eq_true]; done) | (simp only [eq_false g0, true_and, and_true, false_and, and_false, true_or, or_true, false_or, or_false, not_true_eq_false, not_false_eq_true, decide_true, decide_false, Bool.true_eq_false, Bool.false_eq_true, eq_self, Bool.decide_eq_true]; rfl))) (.cons (i := 4) rfl (.cons (i := 0) rfl (.cons (i := 1) rfl (.nil _))))) (hx1.trans hx2)
  rintro _ h3 hx3
  show W _ _ _ _ _ [(12, .bool (decide ((0 < (ntoo A)) ∨ (0 < (ntoo B))))), (4, .bool false), (0, v), (1, u)] _
  refine W_splitd rfl (fun g => ?_) (fun g => ?_)
  · refine W_seq ?_
    refine W_region ?_
    refine L_call (E_call (by kernel_rfl) rfl) (law13_alive _ (hK.ext hx3) (hE.ext hx3)) rfl rfl rfl ?_
    rintro _ h4 ⟨rfl, hx4⟩
    refine L_yld (Y_assign rfl) rfl rfl rfl ?_
    refine L_nil ?_
    refine X_then ?_
    refine W_sub _ (.cons (i := 4) rfl (.cons (i := 0) rfl (.cons (i := 1) rfl (.nil _)))) ?_
    refine W_ret ?_
    refine X_then_ret ?_
    refine X_ret1 rfl rfl ?_
    exact ⟨rfl, (hx3.trans hx4)⟩
  · refine W_skip ?_
    refine X_then ?_
    refine W_sub _ (.cons (i := 4) rfl (.cons (i := 0) rfl (.cons (i := 1) rfl (.nil _)))) ?_
    have okA := can_okl (fun q => g (.inl q))
    have okB := can_okl (fun q => g (.inr q))
    refine W_cut (S := Unit) (fun _ => [(4, .bool (decide ((((lsame (cno A) (cno B)) == (lsame (cno A) (cno B))) = true) ∧ ((lsame (cno A) (cno A)) = true))))]) (fun _ h' => Ext h3 h') ?_ ?_
    · refine W_region ?_
      refine L_call (E_call (by kernel_rfl) rfl) (law13_alive _ (hK.ext hx3) (hE.ext hx3)) rfl rfl rfl ?_
      rintro _ h5 ⟨rfl, hx5⟩
      refine L_yld (Y_move rfl) rfl rfl rfl ?_
      refine L_yld (Y_move rfl) rfl rfl rfl ?_
      refine L_call (E_call (by kernel_rfl) rfl) (tree_Canon _ v A (ha.ext (hx3.trans hx5)) okA.2.1 okA.2.2) rfl rfl rfl ?_
      rintro s06 h6 ⟨_, L07, rfl, hr08, hq09, hx10⟩
      refine L_yld (Y_move rfl) rfl rfl rfl ?_
      refine L_call (E_call (by kernel_rfl) rfl) (ref13_Canon _ v A (ha.ext ((hx3.trans hx5).trans hx10)) okA.2.1 okA.2.2) rfl rfl rfl ?_
      rintro s011 h7 ⟨_, L012, rfl, hr013, hq014, hx15⟩
      refine L_call (E_call (by kernel_rfl) rfl) (ref13_Same _ s06 L07 (hr08.ext hx15) s011 L012 hr013 (by have := hq09.1; omega)) rfl rfl rfl ?_
      rintro _ h8 ⟨rfl, hx16⟩
      refine L_yld (Y_pick_t rfl rfl) rfl rfl rfl ?_
      refine L_yld (Y_move rfl) rfl rfl rfl ?_
      refine L_known (d := 22) true rfl (by exact (lsame_c (by assumption) (by assumption)).trans (lsame_refl (cno A))) ?_
      refine L_yld (Y_move rfl) rfl rfl rfl ?_
      refine L_yld (Y_move rfl) rfl rfl rfl ?_
      refine L_call (E_call (by kernel_rfl) rfl) (tree_Equal _ v A (ha.ext ((((hx3.trans hx5).trans hx10).trans hx15).trans hx16)) u B (hb.ext ((((hx3.trans hx5).trans hx10).trans hx15).trans hx16)) okA.2.1 okB.2.1 okA.2.2 okB.2.2) rfl rfl rfl ?_
      rintro _ h9 ⟨rfl, hx17⟩
      refine L_yld (Y_move rfl) rfl rfl rfl ?_
      refine L_yld (Y_move rfl) rfl rfl rfl ?_
      refine L_call (E_call (by kernel_rfl) rfl) (ref13_Equal _ v A (ha.ext (((((hx3.trans hx5).trans hx10).trans hx15).trans hx16).trans hx17)) u B (hb.ext (((((hx3.trans hx5).trans hx10).trans hx15).trans hx16).trans hx17)) okA.2.1 okB.2.1 okA.2.2 okB.2.2) rfl rfl rfl ?_
      rintro _ h10 ⟨rfl, hx18⟩
      refine L_yld (Y_beql Tryd.underlying4 rfl rfl) rfl rfl rfl ?_
      refine L_yld (Y_pick_t rfl rfl) rfl rfl rfl ?_
      refine L_yld (Y_move rfl) rfl rfl rfl ?_
      refine L_split (d := 31) rfl (fun c19 => ?_) (fun c19 => ?_)
      · refine L_yld (Y_move rfl) rfl rfl rfl ?_
        refine L_yld (Y_move rfl) rfl rfl rfl ?_
        refine L_call (E_call (by kernel_rfl) rfl) (tree_Equal _ v A (ha.ext ((((((hx3.trans hx5).trans hx10).trans hx15).trans hx16).trans hx17).trans hx18)) v A (ha.ext ((((((hx3.trans hx5).trans hx10).trans hx15).trans hx16).trans hx17).trans hx18)) okA.2.1 okA.2.1 okA.2.2 okA.2.2) rfl rfl rfl ?_
        rintro _ h11 ⟨rfl, hx20⟩
        refine L_yld (Y_pick_t rfl rfl) rfl rfl rfl ?_
        refine L_yld (Y_assign rfl) rfl rfl rfl ?_
        refine L_nil ?_
        exact X_cut () (.cons (i := 4) (lkb rfl (by first | (simp only [c19, true_and, and_true, false_and, and_false, true_or, or_true, false_or, or_false, not_true_eq_false, not_false_eq_true, decide_true, decide_false, Bool.true_eq_false, Bool.false_eq_true, eq_self, Bool.decide_eq_true]; done) | (simp only [c19, true_and, and_true, false_and, and_false, true_or, or_true, false_or, or_false, not_true_eq_false, not_false_eq_true, decide_true, decide_false, Bool.true_eq_false, Bool.false_eq_true, eq_self, Bool.decide_eq_true]; rfl))) (.nil _)) ((((((hx5.trans hx10).trans hx15).trans hx16).trans hx17).trans hx18).trans hx20)
      · refine L_skip rfl rfl rfl ?_
        refine L_skip rfl rfl rfl ?_
        refine L_skip rfl rfl rfl ?_
        refine L_yld (Y_pick_f rfl rfl) rfl rfl rfl ?_
        refine L_yld (Y_assign rfl) rfl rfl rfl ?_
        refine L_nil ?_
        exact X_cut () (.cons (i := 4) (lkb rfl (by first | (simp only [c19, true_and, and_true, false_and, and_false, true_or, or_true, false_or, or_false, not_true_eq_false, not_false_eq_true, decide_true, decide_false, Bool.true_eq_false, Bool.false_eq_true, eq_self, Bool.decide_eq_true]; done) | (simp only [c19, true_and, and_true, false_and, and_false, true_or, or_true, false_or, or_false, not_true_eq_false, not_false_eq_true, decide_true, decide_false, Bool.true_eq_false, Bool.false_eq_true, eq_self, Bool.decide_eq_true]; rfl))) (.nil _)) (((((hx5.trans hx10).trans hx15).trans hx16).trans hx17).trans hx18)
    rintro _ h12 hx21
    show W _ _ _ _ _ [(4, .bool (decide ((((lsame (cno A) (cno B)) == (lsame (cno A) (cno B))) = true) ∧ ((lsame (cno A) (cno A)) = true))))] _
    refine W_ret ?_
    refine X_ret1 rfl rfl ?_
    exact ⟨congrArg Value.bool (decide_eq_true ⟨by simp, lsame_refl _⟩), (hx3.trans hx21)⟩
end Go.Xp
