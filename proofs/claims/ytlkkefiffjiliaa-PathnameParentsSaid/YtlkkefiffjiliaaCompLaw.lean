/- Layer 8 (pathname): the text of the laws on components and parents. -/
import Derived.Test.YtlkkefiffjiliaaCheckLaw
set_option linter.unusedSimpArgs false
set_option linter.unusedVariables false
namespace Go.Xp
open Go.Proofs

/-- The components of a path with one more behind it. -/
theorem comps_app : ∀ (p : List UInt8) {c : List UInt8}, (∀ j, j < c.length → ¬ byt c j = 47) → comps (p ++ [47] ++ c) = comps p ++ [c]
  | [], c, h => by
    show comps (47 :: c) = _
    rw [show comps (47 :: c) = [] :: comps c by rw [comps]; simp, comps_none h]; rfl
  | a :: p, c, h => by
    have ih := comps_app p h
    show comps (a :: (p ++ [47] ++ c)) = _
    rw [comps, ih]
    by_cases ha : a = 47
    · rw [if_pos ha, comps, if_pos ha]; rfl
    · rw [if_neg ha, comps, if_neg ha]
      cases hp : comps p with
      | nil => exact absurd hp (comps_ne p)
      | cons x xs => rfl
theorem noslash {c : List UInt8} (h : (47 : UInt8) ∉ c) : ∀ j, j < c.length → ¬ byt c j = 47 := fun j hj h1 => h (byt_mem (c := 47) hj h1)
theorem pcheck_zero {p : List UInt8} (h : p.length ≤ 65536) : pcheck p = 0 ↔ (comps p).all okc = true := by
  unfold pcheck
  rw [if_neg (by omega)]
  split <;> simp [*]
theorem okc_iff (c : List UInt8) : okc c = true ↔ ¬ c = [] ∧ ¬ c = [46] ∧ ¬ c = [46, 46] ∧ (0 : UInt8) ∉ c := by
  unfold okc; simp [and_assoc]

theorem conds_iff (c : List UInt8) : (((¬ c = [] ∧ ¬ c = [46]) ∧ ¬ c = [46, 46]) ∧ ¬ 0 ≤ Lib.indexByte c ([0].getD 0 0)) ↔ okc c = true := by
  rw [okc_iff, show ([0] : List UInt8).getD 0 0 = 0 from rfl, indexByte_mem, and_assoc, and_assoc]
theorem comp_law {p c : List UInt8} (hl : p.length + c.length ≤ 3000) (hns : (47 : UInt8) ∉ c) : (pcheck (p ++ [47] ++ c) = 0 ↔ (okc c = true ∧ pcheck p = 0)) ∧ (pcheck c = 0 ↔ okc c = true) := by
  constructor
  · rw [pcheck_zero (by simp; omega), pcheck_zero (by omega), comps_app p (noslash hns), List.all_append, Bool.and_eq_true]
    simp [and_comm]
  · rw [pcheck_zero (by omega), comps_none (noslash hns)]; simp

set_option maxRecDepth 100000 in
theorem law08_Components (h : Heap) (p : List UInt8) (c : List UInt8) (hp : p.length ≤ 140737488351232) (hc : c.length ≤ 140737488351232) : Cal Try.prog 15 #[str p, str c] h (fun v h' => v = .bool true ∧ Ext h h') := by
  refine Cal_enter (args := [str p, str c]) Try.func15 rfl rfl rfl (fun σ => ?_)
  refine W_seq ?_
  refine W_region ?_
  refine L_yld (Y_assign rfl) rfl rfl rfl ?_
  refine L_nil ?_
  refine X_then ?_
  refine W_seq ?_
  refine W_cut (S := Unit) (fun _ => [(16, .bool (decide ((3000 < ((p.length : Int) + (c.length : Int))) ∨ (0 ≤ Lib.indexByte c ([47].getD 0 0))))), (4, .bool false), (0, str p), (1, str c)]) (fun _ h' => h' = h) ?_ ?_
  · refine W_region ?_
    refine L_yld (Y_move rfl) rfl rfl rfl ?_
    refine L_yld (Y_slen Try.underlying9 rfl) rfl rfl rfl ?_
    refine L_yld (Y_move rfl) rfl rfl rfl ?_
    refine L_yld (Y_slen Try.underlying9 rfl) rfl rfl rfl ?_
    refine L_yld (Y_add rfl rfl (by omega) (by omega)) rfl rfl rfl ?_
    refine L_yld (Y_gtr rfl rfl) rfl rfl rfl ?_
    refine L_yld (Y_move rfl) rfl rfl rfl ?_
    refine L_splitd (d := 13) rfl (fun c1 => ?_) (fun c1 => ?_)
    · refine L_skip rfl rfl rfl ?_
      refine L_skip rfl rfl rfl ?_
      refine L_yld (Y_pick_t rfl rfl) rfl rfl rfl ?_
      refine L_nil ?_
      exact X_cut () (.cons (i := 16) (lkb rfl (by simp only [eq_true c1, true_and, and_true, false_and, and_false, true_or, or_true, false_or, or_false, not_true_eq_false, not_false_eq_true, decide_true, decide_false, Bool.true_eq_false, Bool.false_eq_true, eq_self, Bool.decide_eq_true])) (.cons (i := 4) rfl (.cons (i := 0) rfl (.cons (i := 1) rfl (.nil _))))) rfl
    · refine L_yld (Y_move rfl) rfl rfl rfl ?_
      refine L_call (E_call (by kernel_rfl) rfl) (strings_Contains _ c [47] (by first | omega | rfl | (simp <;> omega))) rfl rfl rfl ?_
      rintro _ h ⟨rfl, rfl⟩
      refine L_yld (Y_pick_f rfl rfl) rfl rfl rfl ?_
      refine L_nil ?_
      exact X_cut () (.cons (i := 16) (lkb rfl (by simp only [eq_false c1, true_and, and_true, false_and, and_false, true_or, or_true, false_or, or_false, not_true_eq_false, not_false_eq_true, decide_true, decide_false, Bool.true_eq_false, Bool.false_eq_true, eq_self, Bool.decide_eq_true])) (.cons (i := 4) rfl (.cons (i := 0) rfl (.cons (i := 1) rfl (.nil _))))) rfl
  rintro _ h rfl
  show W _ _ _ _ _ [(16, .bool (decide ((3000 < ((p.length : Int) + (c.length : Int))) ∨ (0 ≤ Lib.indexByte c ([47].getD 0 0))))), (4, .bool false), (0, str p), (1, str c)] _
  refine W_splitd rfl (fun g => ?_) (fun g => ?_)
  · refine W_seq ?_
    refine W_region ?_
    refine L_call (E_call (by kernel_rfl) rfl) (law08_alive _) rfl rfl rfl ?_
    rintro _ h1 ⟨rfl, hx2⟩
    refine L_yld (Y_assign rfl) rfl rfl rfl ?_
    refine L_nil ?_
    refine X_then ?_
    refine W_sub _ (.cons (i := 4) rfl (.cons (i := 0) rfl (.cons (i := 1) rfl (.nil _)))) ?_
    refine W_ret ?_
    refine X_then_ret ?_
    refine X_ret1 rfl rfl ?_
    exact ⟨rfl, hx2⟩
  · refine W_skip ?_
    refine X_then ?_
    refine W_sub _ (.cons (i := 4) rfl (.cons (i := 0) rfl (.cons (i := 1) rfl (.nil _)))) ?_
    have hns : (47 : UInt8) ∉ c := fun h9 => g (.inr ((indexByte_mem c _).2 h9))
    have hlen : p.length + c.length ≤ 3000 := by omega
    refine W_seq ?_
    refine W_region ?_
    refine L_yld (Y_move rfl) rfl rfl rfl ?_
    refine L_yld (Y_sadd rfl rfl (by first | omega | (simp <;> omega))) rfl rfl rfl ?_
    refine L_yld (Y_move rfl) rfl rfl rfl ?_
    refine L_yld (Y_sadd rfl rfl (by first | omega | (simp <;> omega))) rfl rfl rfl ?_
    refine L_yld (Y_assign rfl) rfl rfl rfl ?_
    refine L_nil ?_
    refine X_then ?_
    refine W_sub _ (.cons (i := 5) rfl (.cons (i := 4) rfl (.cons (i := 0) rfl (.cons (i := 1) rfl (.nil _))))) ?_
    refine W_cut (S := Unit) (fun _ => [(6, .bool (decide ((((¬ c = []) ∧ (¬ c = [46])) ∧ (¬ c = [46, 46])) ∧ (¬ (0 ≤ Lib.indexByte c ([0].getD 0 0)))))), (5, str ((p ++ [47]) ++ c)), (4, .bool false), (0, str p), (1, str c)]) (fun _ h' => h' = h) ?_ ?_
    · refine W_region ?_
      refine L_yld (Y_move rfl) rfl rfl rfl ?_
      refine L_yld (Y_sneq rfl rfl) rfl rfl rfl ?_
      refine L_yld (Y_move rfl) rfl rfl rfl ?_
      refine L_splitd (d := 24) rfl (fun c3 => ?_) (fun c3 => ?_)
      · refine L_yld (Y_move rfl) rfl rfl rfl ?_
        refine L_yld (Y_sneq rfl rfl) rfl rfl rfl ?_
        refine L_yld (Y_pick_t rfl rfl) rfl rfl rfl ?_
        refine L_yld (Y_move rfl) rfl rfl rfl ?_
        refine L_splitd (d := 28) rfl (fun c4 => ?_) (fun c4 => ?_)
        · refine L_yld (Y_move rfl) rfl rfl rfl ?_
          refine L_yld (Y_sneq rfl rfl) rfl rfl rfl ?_
          refine L_yld (Y_pick_t rfl rfl) rfl rfl rfl ?_
          refine L_yld (Y_move rfl) rfl rfl rfl ?_
          refine L_splitd (d := 32) rfl (fun c5 => ?_) (fun c5 => ?_)
          · refine L_yld (Y_move rfl) rfl rfl rfl ?_
            refine L_call (E_call (by kernel_rfl) rfl) (strings_Contains _ c [0] (by first | omega | rfl | (simp <;> omega))) rfl rfl rfl ?_
            rintro _ h ⟨rfl, rfl⟩
            refine L_yld (Y_notd rfl) rfl rfl rfl ?_
            refine L_yld (Y_pick_t rfl rfl) rfl rfl rfl ?_
            refine L_yld (Y_assign rfl) rfl rfl rfl ?_
            refine L_nil ?_
            exact X_cut () (.cons (i := 6) (lkb rfl (by simp only [eq_true c3, eq_true c4, eq_true c5, true_and, and_true, false_and, and_false, true_or, or_true, false_or, or_false, not_true_eq_false, not_false_eq_true, decide_true, decide_false, Bool.true_eq_false, Bool.false_eq_true, eq_self, Bool.decide_eq_true])) (.cons (i := 5) rfl (.cons (i := 4) rfl (.cons (i := 0) rfl (.cons (i := 1) rfl (.nil _)))))) rfl
          · refine L_skip rfl rfl rfl ?_
            refine L_skip rfl rfl rfl ?_
            refine L_skip rfl rfl rfl ?_
            refine L_yld (Y_pick_f rfl rfl) rfl rfl rfl ?_
            refine L_yld (Y_assign rfl) rfl rfl rfl ?_
            refine L_nil ?_
            exact X_cut () (.cons (i := 6) (lkb rfl (by simp only [eq_true c3, eq_true c4, eq_false c5, true_and, and_true, false_and, and_false, true_or, or_true, false_or, or_false, not_true_eq_false, not_false_eq_true, decide_true, decide_false, Bool.true_eq_false, Bool.false_eq_true, eq_self, Bool.decide_eq_true])) (.cons (i := 5) rfl (.cons (i := 4) rfl (.cons (i := 0) rfl (.cons (i := 1) rfl (.nil _)))))) rfl
        · refine L_skip rfl rfl rfl ?_
          refine L_skip rfl rfl rfl ?_
          refine L_yld (Y_pick_f rfl rfl) rfl rfl rfl ?_
          refine L_yld (Y_move rfl) rfl rfl rfl ?_
          refine L_skip rfl rfl rfl ?_
          refine L_skip rfl rfl rfl ?_
          refine L_skip rfl rfl rfl ?_
          refine L_yld (Y_pick_f rfl rfl) rfl rfl rfl ?_
          refine L_yld (Y_assign rfl) rfl rfl rfl ?_
          refine L_nil ?_
          exact X_cut () (.cons (i := 6) (lkb rfl (by simp only [eq_true c3, eq_false c4, true_and, and_true, false_and, and_false, true_or, or_true, false_or, or_false, not_true_eq_false, not_false_eq_true, decide_true, decide_false, Bool.true_eq_false, Bool.false_eq_true, eq_self, Bool.decide_eq_true])) (.cons (i := 5) rfl (.cons (i := 4) rfl (.cons (i := 0) rfl (.cons (i := 1) rfl (.nil _)))))) rfl
      · refine L_skip rfl rfl rfl ?_
        refine L_skip rfl rfl rfl ?_
        refine L_yld (Y_pick_f rfl rfl) rfl rfl rfl ?_
        refine L_yld (Y_move rfl) rfl rfl rfl ?_
        refine L_skip rfl rfl rfl ?_
        refine L_skip rfl rfl rfl ?_
        refine L_yld (Y_pick_f rfl rfl) rfl rfl rfl ?_
        refine L_yld (Y_move rfl) rfl rfl rfl ?_
        refine L_skip rfl rfl rfl ?_
        refine L_skip rfl rfl rfl ?_
        refine L_skip rfl rfl rfl ?_
        refine L_yld (Y_pick_f rfl rfl) rfl rfl rfl ?_
        refine L_yld (Y_assign rfl) rfl rfl rfl ?_
        refine L_nil ?_
        exact X_cut () (.cons (i := 6) (lkb rfl (by simp only [eq_false c3, true_and, and_true, false_and, and_false, true_or, or_true, false_or, or_false, not_true_eq_false, not_false_eq_true, decide_true, decide_false, Bool.true_eq_false, Bool.false_eq_true, eq_self, Bool.decide_eq_true])) (.cons (i := 5) rfl (.cons (i := 4) rfl (.cons (i := 0) rfl (.cons (i := 1) rfl (.nil _)))))) rfl
    rintro _ h rfl
    show W _ _ _ _ _ [(6, .bool (decide ((((¬ c = []) ∧ (¬ c = [46])) ∧ (¬ c = [46, 46])) ∧ (¬ (0 ≤ Lib.indexByte c ([0].getD 0 0)))))), (5, str ((p ++ [47]) ++ c)), (4, .bool false), (0, str p), (1, str c)] _
    refine W_cut (S := Unit) (fun _ => [(4, .bool (decide ((((decide ((pcheck ((p ++ [47]) ++ c)) = 0)) == (decide (((((¬ c = []) ∧ (¬ c = [46])) ∧ (¬ c = [46, 46])) ∧ (¬ (0 ≤ Lib.indexByte c ([0].getD 0 0)))) ∧ ((pcheck p) = 0)))) = true) ∧ (((decide ((pcheck c) = 0)) == (decide ((((¬ c = []) ∧ (¬ c = [46])) ∧ (¬ c = [46, 46])) ∧ (¬ (0 ≤ Lib.indexByte c ([0].getD 0 0)))))) = true))))]) (fun _ h' => Ext h h') ?_ ?_
    · refine W_region ?_
      refine L_call (E_call (by kernel_rfl) rfl) (law08_alive _) rfl rfl rfl ?_
      rintro _ h2 ⟨rfl, hx6⟩
      refine L_yld (Y_move rfl) rfl rfl rfl ?_
      refine L_yld (Y_move rfl) rfl rfl rfl ?_
      refine L_call (E_call (by kernel_rfl) rfl) (pathname_Check _ ((p ++ [47]) ++ c) (by first | omega | rfl | (simp <;> omega))) rfl rfl rfl ?_
      rintro _ h3 ⟨rfl, hx7⟩
      refine L_yld (Y_eql rfl rfl) rfl rfl rfl ?_
      refine L_yld (Y_move rfl) rfl rfl rfl ?_
      refine L_yld (Y_move rfl) rfl rfl rfl ?_
      refine L_splitd (d := 43) rfl (fun c8 => ?_) (fun c8 => ?_)
      · refine L_yld (Y_move rfl) rfl rfl rfl ?_
        refine L_call (E_call (by kernel_rfl) rfl) (pathname_Check _ p (by first | omega | rfl | (simp <;> omega))) rfl rfl rfl ?_
        rintro _ h4 ⟨rfl, hx9⟩
        refine L_yld (Y_eql rfl rfl) rfl rfl rfl ?_
        refine L_yld (Y_pick_t rfl rfl) rfl rfl rfl ?_
        refine L_yld (Y_beql Try.underlying4 rfl rfl) rfl rfl rfl ?_
        refine L_yld (Y_pick_t rfl rfl) rfl rfl rfl ?_
        refine L_yld (Y_move rfl) rfl rfl rfl ?_
        refine L_split (d := 50) rfl (fun c10 => ?_) (fun c10 => ?_)
        · refine L_yld (Y_move rfl) rfl rfl rfl ?_
          refine L_call (E_call (by kernel_rfl) rfl) (pathname_Check _ c (by first | omega | rfl | (simp <;> omega))) rfl rfl rfl ?_
          rintro _ h5 ⟨rfl, hx11⟩
          refine L_yld (Y_eql rfl rfl) rfl rfl rfl ?_
          refine L_yld (Y_move rfl) rfl rfl rfl ?_
          refine L_yld (Y_beql Try.underlying4 rfl rfl) rfl rfl rfl ?_
          refine L_yld (Y_pick_t rfl rfl) rfl rfl rfl ?_
          refine L_yld (Y_assign rfl) rfl rfl rfl ?_
          refine L_nil ?_
          exact X_cut () (.cons (i := 4) (lkb rfl (by simp only [eq_true c8, c10, true_and, and_true, false_and, and_false, true_or, or_true, false_or, or_false, not_true_eq_false, not_false_eq_true, decide_true, decide_false, Bool.true_eq_false, Bool.false_eq_true, eq_self, Bool.decide_eq_true])) (.nil _)) (((hx6.trans hx7).trans hx9).trans hx11)
        · refine L_skip rfl rfl rfl ?_
          refine L_skip rfl rfl rfl ?_
          refine L_skip rfl rfl rfl ?_
          refine L_skip rfl rfl rfl ?_
          refine L_skip rfl rfl rfl ?_
          refine L_yld (Y_pick_f rfl rfl) rfl rfl rfl ?_
          refine L_yld (Y_assign rfl) rfl rfl rfl ?_
          refine L_nil ?_
          exact X_cut () (.cons (i := 4) (lkb rfl (by simp only [eq_true c8, c10, true_and, and_true, false_and, and_false, true_or, or_true, false_or, or_false, not_true_eq_false, not_false_eq_true, decide_true, decide_false, Bool.true_eq_false, Bool.false_eq_true, eq_self, Bool.decide_eq_true])) (.nil _)) ((hx6.trans hx7).trans hx9)
      · refine L_skip rfl rfl rfl ?_
        refine L_skip rfl rfl rfl ?_
        refine L_skip rfl rfl rfl ?_
        refine L_yld (Y_pick_f rfl rfl) rfl rfl rfl ?_
        refine L_yld (Y_beql Try.underlying4 rfl rfl) rfl rfl rfl ?_
        refine L_yld (Y_pick_t rfl rfl) rfl rfl rfl ?_
        refine L_yld (Y_move rfl) rfl rfl rfl ?_
        refine L_split (d := 50) rfl (fun c12 => ?_) (fun c12 => ?_)
        · refine L_yld (Y_move rfl) rfl rfl rfl ?_
          refine L_call (E_call (by kernel_rfl) rfl) (pathname_Check _ c (by first | omega | rfl | (simp <;> omega))) rfl rfl rfl ?_
          rintro _ h6 ⟨rfl, hx13⟩
          refine L_yld (Y_eql rfl rfl) rfl rfl rfl ?_
          refine L_yld (Y_move rfl) rfl rfl rfl ?_
          refine L_yld (Y_beql Try.underlying4 rfl rfl) rfl rfl rfl ?_
          refine L_yld (Y_pick_t rfl rfl) rfl rfl rfl ?_
          refine L_yld (Y_assign rfl) rfl rfl rfl ?_
          refine L_nil ?_
          exact X_cut () (.cons (i := 4) (lkb rfl (by simp only [eq_false c8, c12, true_and, and_true, false_and, and_false, true_or, or_true, false_or, or_false, not_true_eq_false, not_false_eq_true, decide_true, decide_false, Bool.true_eq_false, Bool.false_eq_true, eq_self, Bool.decide_eq_true])) (.nil _)) ((hx6.trans hx7).trans hx13)
        · refine L_skip rfl rfl rfl ?_
          refine L_skip rfl rfl rfl ?_
          refine L_skip rfl rfl rfl ?_
          refine L_skip rfl rfl rfl ?_
          refine L_skip rfl rfl rfl ?_
          refine L_yld (Y_pick_f rfl rfl) rfl rfl rfl ?_
          refine L_yld (Y_assign rfl) rfl rfl rfl ?_
          refine L_nil ?_
          exact X_cut () (.cons (i := 4) (lkb rfl (by simp only [eq_false c8, c12, true_and, and_true, false_and, and_false, true_or, or_true, false_or, or_false, not_true_eq_false, not_false_eq_true, decide_true, decide_false, Bool.true_eq_false, Bool.false_eq_true, eq_self, Bool.decide_eq_true])) (.nil _)) (hx6.trans hx7)
    rintro _ h7 hx14
    show W _ _ _ _ _ [(4, .bool (decide ((((decide ((pcheck ((p ++ [47]) ++ c)) = 0)) == (decide (((((¬ c = []) ∧ (¬ c = [46])) ∧ (¬ c = [46, 46])) ∧ (¬ (0 ≤ Lib.indexByte c ([0].getD 0 0)))) ∧ ((pcheck p) = 0)))) = true) ∧ (((decide ((pcheck c) = 0)) == (decide ((((¬ c = []) ∧ (¬ c = [46])) ∧ (¬ c = [46, 46])) ∧ (¬ (0 ≤ Lib.indexByte c ([0].getD 0 0)))))) = true))))] _
    refine W_ret ?_
    refine X_ret1 rfl rfl ?_
    have hcl := comp_law hlen hns
    exact ⟨congrArg Value.bool (decide_eq_true ⟨beq_of_iff (hcl.1.trans (and_congr (conds_iff c).symm Iff.rfl)), beq_of_iff (hcl.2.trans (conds_iff c).symm)⟩), hx14⟩

theorem lastIdx_spec : ∀ (l : List UInt8) (c : UInt8), (lastIdx l c = -1 ∧ c ∉ l) ∨ ∃ r : Nat, lastIdx l c = r ∧ r < l.length ∧ l = l.take r ++ [c] ++ l.drop (r + 1) ∧ c ∉ l.drop (r + 1)
  | [], c => .inl ⟨rfl, by simp⟩
  | a :: l, c => by
    rcases lastIdx_spec l c with ⟨h1, h2⟩ | ⟨r, h1, h2, h3, h4⟩
    · by_cases h : a = c
      · right
        exact ⟨0, by unfold lastIdx; rw [if_pos h1, if_pos h]; rfl, by simp, by simp [h], by simpa using h2⟩
      · left
        refine ⟨by unfold lastIdx; rw [if_pos h1, if_neg h], fun hm => ?_⟩
        rcases List.mem_cons.1 hm with h5 | h5
        · exact h h5.symm
        · exact h2 h5
    · right
      refine ⟨r + 1, by unfold lastIdx; rw [if_neg (by omega), h1]; rfl, by simpa using h2, ?_, by simpa using h4⟩
      simp only [List.take_succ_cons, List.drop_succ_cons, List.cons_append]
      rw [← h3]
theorem parent_law {p : List UInt8} (hl : p.length ≤ 3000) (hv : pcheck p = 0) : (47 : UInt8) ∉ pbase p ∧ pcheck (pbase p) = 0 ∧ pjoin (pparent p) (pbase p) = p ∧ (¬ pparent p = [] → pcheck (pparent p) = 0 ∧ pcmp (pparent p) p = -1) := by
  have hv' := (pcheck_zero (by omega)).1 hv
  rcases lastIdx_spec p 47 with ⟨h1, h2⟩ | ⟨r, h1, h2, h3, h4⟩
  · have hb : pbase p = p := by unfold pbase; rw [h1]; rfl
    have hp : pparent p = [] := by unfold pparent; rw [h1]; rfl
    rw [hb, hp]
    exact ⟨h2, hv, by simp [pjoin], fun h => absurd rfl h⟩
  · have hb : pbase p = p.drop (r + 1) := by unfold pbase; rw [h1]; rfl
    have hp : pparent p = p.take r := by unfold pparent; rw [h1]; rfl
    rw [hb, hp]
    have hc : comps p = comps (p.take r) ++ [p.drop (r + 1)] := by
      conv => lhs; rw [h3]
      exact comps_app _ (noslash h4)
    rw [hc, List.all_append, Bool.and_eq_true] at hv'
    have hne : ¬ p.take r = [] := by
      intro e
      rw [e] at hv'
      simp [comps, okc] at hv'
    refine ⟨h4, ?_, ?_, fun _ => ⟨(pcheck_zero (by simp; omega)).2 hv'.1, ?_⟩⟩
    · rw [pcheck_zero (by simp; omega), comps_none (noslash h4)]; exact hv'.2
    · unfold pjoin; rw [if_neg hne]; exact h3.symm
    · apply pcmp_lt
      apply less_short
      · intro k hk
        simp only [List.length_take] at hk
        rw [byt_eq (by simp only [List.length_take]; exact hk), byt_eq (by omega), List.getElem_take]
      · simp only [List.length_take]; omega

set_option maxRecDepth 100000 in
theorem law08_Parents (h : Heap) (p : List UInt8) (hp : p.length ≤ 140737488351232) : Cal Try.prog 16 #[str p] h (fun v h' => v = .bool true ∧ Ext h h') := by
  refine Cal_enter (args := [str p]) Try.func16 rfl rfl rfl (fun σ => ?_)
  refine W_seq ?_
  refine W_region ?_
  refine L_yld (Y_assign rfl) rfl rfl rfl ?_
  refine L_nil ?_
  refine X_then ?_
  refine W_seq ?_
  refine W_cut (S := Unit) (fun _ => [(12, .bool (decide ((3000 < (p.length : Int)) ∨ (¬ (pcheck p) = 0)))), (2, .bool false), (0, str p)]) (fun _ h' => Ext h h') ?_ ?_
  · refine W_region ?_
    refine L_yld (Y_move rfl) rfl rfl rfl ?_
    refine L_yld (Y_slen Try.underlying9 rfl) rfl rfl rfl ?_
    refine L_yld (Y_gtr rfl rfl) rfl rfl rfl ?_
    refine L_yld (Y_move rfl) rfl rfl rfl ?_
    refine L_splitd (d := 8) rfl (fun c1 => ?_) (fun c1 => ?_)
    · refine L_skip rfl rfl rfl ?_
      refine L_skip rfl rfl rfl ?_
      refine L_skip rfl rfl rfl ?_
      refine L_yld (Y_pick_t rfl rfl) rfl rfl rfl ?_
      refine L_nil ?_
      exact X_cut () (.cons (i := 12) (lkb rfl (by simp only [eq_true c1, true_and, and_true, false_and, and_false, true_or, or_true, false_or, or_false, not_true_eq_false, not_false_eq_true, decide_true, decide_false, Bool.true_eq_false, Bool.false_eq_true, eq_self, Bool.decide_eq_true])) (.cons (i := 2) rfl (.cons (i := 0) rfl (.nil _)))) (Ext.refl _)
    · refine L_yld (Y_move rfl) rfl rfl rfl ?_
      refine L_call (E_call (by kernel_rfl) rfl) (pathname_Check _ p (by first | omega | rfl | (simp <;> omega))) rfl rfl rfl ?_
      rintro _ h1 ⟨rfl, hx2⟩
      refine L_yld (Y_neq rfl rfl) rfl rfl rfl ?_
      refine L_yld (Y_pick_f rfl rfl) rfl rfl rfl ?_
      refine L_nil ?_
      exact X_cut () (.cons (i := 12) (lkb rfl (by simp only [eq_false c1, true_and, and_true, false_and, and_false, true_or, or_true, false_or, or_false, not_true_eq_false, not_false_eq_true, decide_true, decide_false, Bool.true_eq_false, Bool.false_eq_true, eq_self, Bool.decide_eq_true])) (.cons (i := 2) rfl (.cons (i := 0) rfl (.nil _)))) hx2
  rintro _ h2 hx3
  show W _ _ _ _ _ [(12, .bool (decide ((3000 < (p.length : Int)) ∨ (¬ (pcheck p) = 0)))), (2, .bool false), (0, str p)] _
  refine W_splitd rfl (fun g => ?_) (fun g => ?_)
  · refine W_seq ?_
    refine W_region ?_
    refine L_call (E_call (by kernel_rfl) rfl) (law08_alive _) rfl rfl rfl ?_
    rintro _ h3 ⟨rfl, hx4⟩
    refine L_yld (Y_assign rfl) rfl rfl rfl ?_
    refine L_nil ?_
    refine X_then ?_
    refine W_sub _ (.cons (i := 2) rfl (.cons (i := 0) rfl (.nil _))) ?_
    refine W_ret ?_
    refine X_then_ret ?_
    refine X_ret1 rfl rfl ?_
    exact ⟨rfl, (hx3.trans hx4)⟩
  · refine W_skip ?_
    refine X_then ?_
    refine W_sub _ (.cons (i := 2) rfl (.cons (i := 0) rfl (.nil _))) ?_
    have hlen : p.length ≤ 3000 := by omega
    have hv : pcheck p = 0 := by simp only [not_or] at g; simpa using g.2
    have hpl := parent_law hlen hv
    have hpp : (pparent p).length ≤ p.length := by unfold pparent; split <;> simp only [List.length_nil, List.length_take] <;> omega
    have hpb : (pbase p).length ≤ p.length := by unfold pbase; simp
    refine W_seq ?_
    refine W_region ?_
    refine L_yld (Y_move rfl) rfl rfl rfl ?_
    refine L_call (E_call (by kernel_rfl) rfl) (pathname_Parent _ p (by first | omega | rfl | (simp <;> omega))) rfl rfl rfl ?_
    rintro _ h2 ⟨rfl, rfl⟩
    refine L_yld (Y_move rfl) rfl rfl rfl ?_
    refine L_call (E_call (by kernel_rfl) rfl) (pathname_Base _ p (by first | omega | rfl | (simp <;> omega))) rfl rfl rfl ?_
    rintro _ h2 ⟨rfl, rfl⟩
    refine L_yld (Y_assign rfl) rfl rfl rfl ?_
    refine L_yld (Y_assign rfl) rfl rfl rfl ?_
    refine L_nil ?_
    refine X_then ?_
    refine W_sub _ (.cons (i := 4) rfl (.cons (i := 3) rfl (.cons (i := 2) rfl (.cons (i := 0) rfl (.nil _))))) ?_
    refine W_seq ?_
    refine W_cut (S := Unit) (fun _ => [(30, .bool (decide ((¬ (pparent p) = []) ∧ ((¬ (pcheck (pparent p)) = 0) ∨ (¬ (pcmp (pparent p) p) = (-1)))))), (4, str (pbase p)), (3, str (pparent p)), (2, .bool false), (0, str p)]) (fun _ h' => Ext h2 h') ?_ ?_
    · refine W_region ?_
      refine L_yld (Y_move rfl) rfl rfl rfl ?_
      refine L_yld (Y_sneq rfl rfl) rfl rfl rfl ?_
      refine L_yld (Y_move rfl) rfl rfl rfl ?_
      refine L_splitd (d := 20) rfl (fun c5 => ?_) (fun c5 => ?_)
      · refine L_yld (Y_move rfl) rfl rfl rfl ?_
        refine L_call (E_call (by kernel_rfl) rfl) (pathname_Check _ (pparent p) (by first | omega | rfl | (simp <;> omega))) rfl rfl rfl ?_
        rintro _ h4 ⟨rfl, hx6⟩
        refine L_yld (Y_neq rfl rfl) rfl rfl rfl ?_
        refine L_yld (Y_move rfl) rfl rfl rfl ?_
        refine L_splitd (d := 24) rfl (fun c7 => ?_) (fun c7 => ?_)
        · refine L_skip rfl rfl rfl ?_
          refine L_skip rfl rfl rfl ?_
          refine L_skip rfl rfl rfl ?_
          refine L_skip rfl rfl rfl ?_
          refine L_yld (Y_pick_t rfl rfl) rfl rfl rfl ?_
          refine L_yld (Y_pick_t rfl rfl) rfl rfl rfl ?_
          refine L_nil ?_
          exact X_cut () (.cons (i := 30) (lkb rfl (by simp only [eq_true c5, eq_true c7, true_and, and_true, false_and, and_false, true_or, or_true, false_or, or_false, not_true_eq_false, not_false_eq_true, decide_true, decide_false, Bool.true_eq_false, Bool.false_eq_true, eq_self, Bool.decide_eq_true])) (.cons (i := 4) rfl (.cons (i := 3) rfl (.cons (i := 2) rfl (.cons (i := 0) rfl (.nil _)))))) hx6
        · refine L_yld (Y_move rfl) rfl rfl rfl ?_
          refine L_yld (Y_move rfl) rfl rfl rfl ?_
          refine L_call (E_call (by kernel_rfl) rfl) (pathname_Compare _ (pparent p) p) rfl rfl rfl ?_
          rintro _ h4 ⟨rfl, rfl⟩
          refine L_yld (Y_neq rfl rfl) rfl rfl rfl ?_
          refine L_yld (Y_pick_f rfl rfl) rfl rfl rfl ?_
          refine L_yld (Y_pick_t rfl rfl) rfl rfl rfl ?_
          refine L_nil ?_
          exact X_cut () (.cons (i := 30) (lkb rfl (by simp only [eq_true c5, eq_false c7, true_and, and_true, false_and, and_false, true_or, or_true, false_or, or_false, not_true_eq_false, not_false_eq_true, decide_true, decide_false, Bool.true_eq_false, Bool.false_eq_true, eq_self, Bool.decide_eq_true])) (.cons (i := 4) rfl (.cons (i := 3) rfl (.cons (i := 2) rfl (.cons (i := 0) rfl (.nil _)))))) hx6
      · refine L_skip rfl rfl rfl ?_
        refine L_skip rfl rfl rfl ?_
        refine L_skip rfl rfl rfl ?_
        refine L_skip rfl rfl rfl ?_
        refine L_skip rfl rfl rfl ?_
        refine L_skip rfl rfl rfl ?_
        refine L_skip rfl rfl rfl ?_
        refine L_skip rfl rfl rfl ?_
        refine L_skip rfl rfl rfl ?_
        refine L_yld (Y_pick_f rfl rfl) rfl rfl rfl ?_
        refine L_nil ?_
        exact X_cut () (.cons (i := 30) (lkb rfl (by simp only [eq_false c5, true_and, and_true, false_and, and_false, true_or, or_true, false_or, or_false, not_true_eq_false, not_false_eq_true, decide_true, decide_false, Bool.true_eq_false, Bool.false_eq_true, eq_self, Bool.decide_eq_true])) (.cons (i := 4) rfl (.cons (i := 3) rfl (.cons (i := 2) rfl (.cons (i := 0) rfl (.nil _)))))) (Ext.refl _)
    rintro _ h5 hx8
    show W _ _ _ _ _ [(30, .bool (decide ((¬ (pparent p) = []) ∧ ((¬ (pcheck (pparent p)) = 0) ∨ (¬ (pcmp (pparent p) p) = (-1)))))), (4, str (pbase p)), (3, str (pparent p)), (2, .bool false), (0, str p)] _
    refine W_known false rfl (by exact decide_eq_false (by intro h9; rcases h9 with ⟨h8, h7⟩; have := hpl.2.2.2 h8; omega)) ?_
    refine W_skip ?_
    refine X_then ?_
    refine W_sub _ (.cons (i := 4) rfl (.cons (i := 3) rfl (.cons (i := 2) rfl (.cons (i := 0) rfl (.nil _))))) ?_
    refine W_cut (S := Unit) (fun _ => [(2, .bool (decide ((((pcheck (pbase p)) = 0) ∧ (¬ (0 ≤ Lib.indexByte (pbase p) ([47].getD 0 0)))) ∧ ((pjoin (pparent p) (pbase p)) = p))))]) (fun _ h' => Ext h5 h') ?_ ?_
    · refine W_region ?_
      refine L_call (E_call (by kernel_rfl) rfl) (law08_alive _) rfl rfl rfl ?_
      rintro _ h6 ⟨rfl, hx9⟩
      refine L_yld (Y_move rfl) rfl rfl rfl ?_
      refine L_yld (Y_move rfl) rfl rfl rfl ?_
      refine L_call (E_call (by kernel_rfl) rfl) (pathname_Check _ (pbase p) (by first | omega | rfl | (simp <;> omega))) rfl rfl rfl ?_
      rintro _ h7 ⟨rfl, hx10⟩
      refine L_yld (Y_eql rfl rfl) rfl rfl rfl ?_
      refine L_yld (Y_pick_t rfl rfl) rfl rfl rfl ?_
      refine L_yld (Y_move rfl) rfl rfl rfl ?_
      refine L_splitd (d := 37) rfl (fun c11 => ?_) (fun c11 => ?_)
      · refine L_yld (Y_move rfl) rfl rfl rfl ?_
        refine L_call (E_call (by kernel_rfl) rfl) (strings_Contains _ (pbase p) [47] (by first | omega | rfl | (simp <;> omega))) rfl rfl rfl ?_
        rintro _ h7 ⟨rfl, rfl⟩
        refine L_yld (Y_notd rfl) rfl rfl rfl ?_
        refine L_yld (Y_pick_t rfl rfl) rfl rfl rfl ?_
        refine L_yld (Y_move rfl) rfl rfl rfl ?_
        refine L_splitd (d := 42) rfl (fun c12 => ?_) (fun c12 => ?_)
        · refine L_yld (Y_move rfl) rfl rfl rfl ?_
          refine L_yld (Y_move rfl) rfl rfl rfl ?_
          refine L_call (E_call (by kernel_rfl) rfl) (pathname_Join _ (pparent p) (pbase p) (by first | omega | rfl | (simp <;> omega))) rfl rfl rfl ?_
          rintro _ h7 ⟨rfl, rfl⟩
          refine L_yld (Y_move rfl) rfl rfl rfl ?_
          refine L_yld (Y_seql rfl rfl) rfl rfl rfl ?_
          refine L_yld (Y_pick_t rfl rfl) rfl rfl rfl ?_
          refine L_yld (Y_assign rfl) rfl rfl rfl ?_
          refine L_nil ?_
          exact X_cut () (.cons (i := 2) (lkb rfl (by simp only [eq_true c11, eq_true c12, true_and, and_true, false_and, and_false, true_or, or_true, false_or, or_false, not_true_eq_false, not_false_eq_true, decide_true, decide_false, Bool.true_eq_false, Bool.false_eq_true, eq_self, Bool.decide_eq_true])) (.nil _)) (hx9.trans hx10)
        · refine L_skip rfl rfl rfl ?_
          refine L_skip rfl rfl rfl ?_
          refine L_skip rfl rfl rfl ?_
          refine L_skip rfl rfl rfl ?_
          refine L_skip rfl rfl rfl ?_
          refine L_yld (Y_pick_f rfl rfl) rfl rfl rfl ?_
          refine L_yld (Y_assign rfl) rfl rfl rfl ?_
          refine L_nil ?_
          exact X_cut () (.cons (i := 2) (lkb rfl (by simp only [eq_true c11, eq_false c12, true_and, and_true, false_and, and_false, true_or, or_true, false_or, or_false, not_true_eq_false, not_false_eq_true, decide_true, decide_false, Bool.true_eq_false, Bool.false_eq_true, eq_self, Bool.decide_eq_true])) (.nil _)) (hx9.trans hx10)
      · refine L_skip rfl rfl rfl ?_
        refine L_skip rfl rfl rfl ?_
        refine L_skip rfl rfl rfl ?_
        refine L_yld (Y_pick_f rfl rfl) rfl rfl rfl ?_
        refine L_yld (Y_move rfl) rfl rfl rfl ?_
        refine L_skip rfl rfl rfl ?_
        refine L_skip rfl rfl rfl ?_
        refine L_skip rfl rfl rfl ?_
        refine L_skip rfl rfl rfl ?_
        refine L_skip rfl rfl rfl ?_
        refine L_yld (Y_pick_f rfl rfl) rfl rfl rfl ?_
        refine L_yld (Y_assign rfl) rfl rfl rfl ?_
        refine L_nil ?_
        exact X_cut () (.cons (i := 2) (lkb rfl (by simp only [eq_false c11, true_and, and_true, false_and, and_false, true_or, or_true, false_or, or_false, not_true_eq_false, not_false_eq_true, decide_true, decide_false, Bool.true_eq_false, Bool.false_eq_true, eq_self, Bool.decide_eq_true])) (.nil _)) (hx9.trans hx10)
    rintro _ h8 hx13
    show W _ _ _ _ _ [(2, .bool (decide ((((pcheck (pbase p)) = 0) ∧ (¬ (0 ≤ Lib.indexByte (pbase p) ([47].getD 0 0)))) ∧ ((pjoin (pparent p) (pbase p)) = p))))] _
    refine W_ret ?_
    refine X_ret1 rfl rfl ?_
    exact ⟨congrArg Value.bool (decide_eq_true ⟨⟨hpl.2.1, fun h9 => hpl.1 ((indexByte_mem _ _).1 h9)⟩, hpl.2.2.1⟩), ((hx3.trans hx8).trans hx13)⟩

end Go.Xp
