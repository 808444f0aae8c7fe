/- Layer 7 (ustar): the reference's functions. -/
import Derived.Test.YtmmpnieglihhnaaDoorSum
import Derived.Test.YtmmpnieglihhnaaDoorBox
import Derived.Test.YtmmpnieglihhnaaDoorUstD
import Derived.Test.YtmmpnieglihhnaaDoorOf
set_option linter.unusedSimpArgs false
set_option linter.unusedVariables false
namespace Go.Xp
open Go.Proofs


set_option maxRecDepth 100000 in
theorem ref07_known (h : Heap) (c : Int) : Cal Tryd.prog 38 #[.int .u8 (c)] h (fun v h' => v = .bool (uknown c) ∧ h' = h) := by
  refine Cal_enter (args := [.int .u8 (c)]) Tryd.func38 rfl rfl rfl (fun σ => ?_)
  refine W_seq ?_
  refine W_region ?_
  refine L_yld (Y_assign rfl) rfl rfl rfl ?_
  refine L_nil ?_
  refine X_then ?_
  refine W_cut (S := Unit) (fun _ => [(2, .bool (decide (((((c = 48) ∨ (c = 49)) ∨ (c = 50)) ∨ (c = 53)) ∨ (c = 120))))]) (fun _ h' => h' = h) ?_ ?_
  · refine W_region ?_
    refine L_yld (Y_move rfl) rfl rfl rfl ?_
    refine L_yld (Y_eql rfl rfl) rfl rfl rfl ?_
    refine L_yld (Y_move rfl) rfl rfl rfl ?_
    refine L_splitd (d := 5) rfl (fun c1 => ?_) (fun c1 => ?_)
    · refine L_skip rfl rfl rfl ?_
      refine L_skip rfl rfl rfl ?_
      refine L_yld (Y_pick_t rfl rfl) rfl rfl rfl ?_
      refine L_yld (Y_move rfl) rfl rfl rfl ?_
      refine L_skip rfl rfl rfl ?_
      refine L_skip rfl rfl rfl ?_
      refine L_yld (Y_pick_t rfl rfl) rfl rfl rfl ?_
      refine L_yld (Y_move rfl) rfl rfl rfl ?_
      refine L_skip rfl rfl rfl ?_
      refine L_skip rfl rfl rfl ?_
      refine L_yld (Y_pick_t rfl rfl) rfl rfl rfl ?_
      refine L_yld (Y_move rfl) rfl rfl rfl ?_
      refine L_skip rfl rfl rfl ?_
      refine L_skip rfl rfl rfl ?_
      refine L_yld (Y_pick_t rfl rfl) rfl rfl rfl ?_
      refine L_yld (Y_assign rfl) rfl rfl rfl ?_
      refine L_nil ?_
      exact X_cut () (.cons (i := 2) (lkb rfl (by simp only [eq_true c1, true_and, and_true, false_and, and_false, true_or, or_true, false_or, or_false, not_true_eq_false, not_false_eq_true, decide_true, decide_false, Bool.true_eq_false, Bool.false_eq_true, eq_self, Bool.decide_eq_true])) (.nil _)) rfl
    · refine L_yld (Y_move rfl) rfl rfl rfl ?_
      refine L_yld (Y_eql rfl rfl) rfl rfl rfl ?_
      refine L_yld (Y_pick_f rfl rfl) rfl rfl rfl ?_
      refine L_yld (Y_move rfl) rfl rfl rfl ?_
      refine L_splitd (d := 9) rfl (fun c2 => ?_) (fun c2 => ?_)
      · refine L_skip rfl rfl rfl ?_
        refine L_skip rfl rfl rfl ?_
        refine L_yld (Y_pick_t rfl rfl) rfl rfl rfl ?_
        refine L_yld (Y_move rfl) rfl rfl rfl ?_
        refine L_skip rfl rfl rfl ?_
        refine L_skip rfl rfl rfl ?_
        refine L_yld (Y_pick_t rfl rfl) rfl rfl rfl ?_
        refine L_yld (Y_move rfl) rfl rfl rfl ?_
        refine L_skip rfl rfl rfl ?_
        refine L_skip rfl rfl rfl ?_
        refine L_yld (Y_pick_t rfl rfl) rfl rfl rfl ?_
        refine L_yld (Y_assign rfl) rfl rfl rfl ?_
        refine L_nil ?_
        exact X_cut () (.cons (i := 2) (lkb rfl (by simp only [eq_false c1, eq_true c2, true_and, and_true, false_and, and_false, true_or, or_true, false_or, or_false, not_true_eq_false, not_false_eq_true, decide_true, decide_false, Bool.true_eq_false, Bool.false_eq_true, eq_self, Bool.decide_eq_true])) (.nil _)) rfl
      · refine L_yld (Y_move rfl) rfl rfl rfl ?_
        refine L_yld (Y_eql rfl rfl) rfl rfl rfl ?_
        refine L_yld (Y_pick_f rfl rfl) rfl rfl rfl ?_
        refine L_yld (Y_move rfl) rfl rfl rfl ?_
        refine L_splitd (d := 13) rfl (fun c3 => ?_) (fun c3 => ?_)
        · refine L_skip rfl rfl rfl ?_
          refine L_skip rfl rfl rfl ?_
          refine L_yld (Y_pick_t rfl rfl) rfl rfl rfl ?_
          refine L_yld (Y_move rfl) rfl rfl rfl ?_
          refine L_skip rfl rfl rfl ?_
          refine L_skip rfl rfl rfl ?_
          refine L_yld (Y_pick_t rfl rfl) rfl rfl rfl ?_
          refine L_yld (Y_assign rfl) rfl rfl rfl ?_
          refine L_nil ?_
          exact X_cut () (.cons (i := 2) (lkb rfl (by simp only [eq_false c1, eq_false c2, eq_true c3, true_and, and_true, false_and, and_false, true_or, or_true, false_or, or_false, not_true_eq_false, not_false_eq_true, decide_true, decide_false, Bool.true_eq_false, Bool.false_eq_true, eq_self, Bool.decide_eq_true])) (.nil _)) rfl
        · refine L_yld (Y_move rfl) rfl rfl rfl ?_
          refine L_yld (Y_eql rfl rfl) rfl rfl rfl ?_
          refine L_yld (Y_pick_f rfl rfl) rfl rfl rfl ?_
          refine L_yld (Y_move rfl) rfl rfl rfl ?_
          refine L_splitd (d := 17) rfl (fun c4 => ?_) (fun c4 => ?_)
          · refine L_skip rfl rfl rfl ?_
            refine L_skip rfl rfl rfl ?_
            refine L_yld (Y_pick_t rfl rfl) rfl rfl rfl ?_
            refine L_yld (Y_assign rfl) rfl rfl rfl ?_
            refine L_nil ?_
            exact X_cut () (.cons (i := 2) (lkb rfl (by first | (simp only [eq_false c1, eq_false c2, eq_false c3, eq_true c4, true_and, and_true, false_and, and_false, true_or, or_true, false_or, or_false, not_true_eq_false, not_false_eq_true, decide_true, decide_false, Bool.true_eq_false, Bool.false_eq_true, eq_self, Bool.decide_eq_true]; done) | (exfalso; contradiction) | (exfalso; omega))) (.nil _)) rfl
          · refine L_yld (Y_move rfl) rfl rfl rfl ?_
            refine L_yld (Y_eql rfl rfl) rfl rfl rfl ?_
            refine L_yld (Y_pick_f rfl rfl) rfl rfl rfl ?_
            refine L_yld (Y_assign rfl) rfl rfl rfl ?_
            refine L_nil ?_
            exact X_cut () (.cons (i := 2) (lkb rfl (by first | (simp only [eq_false c1, eq_false c2, eq_false c3, eq_false c4, true_and, and_true, false_and, and_false, true_or, or_true, false_or, or_false, not_true_eq_false, not_false_eq_true, decide_true, decide_false, Bool.true_eq_false, Bool.false_eq_true, eq_self, Bool.decide_eq_true]; done) | (exfalso; contradiction) | (exfalso; omega))) (.nil _)) rfl
  rintro _ h rfl
  show W _ _ _ _ _ [(2, .bool (decide (((((c = 48) ∨ (c = 49)) ∨ (c = 50)) ∨ (c = 53)) ∨ (c = 120))))] _
  refine W_ret ?_
  refine X_ret1 rfl rfl ?_
  exact ⟨by unfold uknown; congr 1; simp only [or_assoc], rfl⟩



set_option maxRecDepth 100000 in
theorem ref07_Check (h : Heap) (t : Int) (name : List UInt8) (pre : List UInt8) (link : List UInt8) (mode : Int) (size : Int) (h1 : name.length ≤ 1048576) (h2 : pre.length ≤ 1048576) (h3 : link.length ≤ 1048576) : Cal Tryd.prog 65 #[.agg #[.int .u8 (t), str name, str pre, str link, .int .i64 (mode), .int .i64 (size)]] h (fun v h' => v = .int .i64 (ucheck t name pre link mode size) ∧ Ext h h') := by
  refine Cal_enter (args := [.agg #[.int .u8 (t), str name, str pre, str link, .int .i64 (mode), .int .i64 (size)]]) Tryd.func65 rfl rfl rfl (fun σ => ?_)
  refine W_seq ?_
  refine W_region ?_
  refine L_mks (M_box rfl) rfl rfl rfl ?_
  rintro _ h1 ⟨rfl, hn1⟩
  have hk2 : Blk h1 h.size [.int .u8 (t), str name, str pre, str link, .int .i64 (mode), .int .i64 (size)] := hn1.blk
  refine L_yld (Y_assign rfl) rfl rfl rfl ?_
  refine L_nil ?_
  refine X_then ?_
  refine W_sub _ (.cons (i := 2) rfl (.cons (i := 1) rfl (.nil _))) ?_
  refine W_seq ?_
  refine W_seq ?_
  refine W_region ?_
  refine L_yld (Y_fieldAddr (off := 0) (by kernel_rfl) rfl rfl) rfl rfl rfl ?_
  refine L_yld (Y_ldblk Tryd.underlying5 rfl rfl hk2 rfl) rfl rfl rfl ?_
  refine L_call (E_call (by kernel_rfl) rfl) (ref07_known _ t) rfl rfl rfl ?_
  rintro _ h1 ⟨rfl, rfl⟩
  refine L_yld (Y_not rfl) rfl rfl rfl ?_
  refine L_nil ?_
  refine X_then ?_
  refine W_sub _ (.cons (i := 8) rfl (.cons (i := 2) rfl (.cons (i := 1) rfl (.nil _)))) ?_
  refine W_split rfl (fun k => ?_) (fun k => ?_)
  · refine W_seq ?_
    refine W_region ?_
    refine L_yld (Y_assign rfl) rfl rfl rfl ?_
    refine L_nil ?_
    refine X_then ?_
    refine W_sub _ (.cons (i := 2) rfl (.cons (i := 1) rfl (.nil _))) ?_
    refine W_ret ?_
    refine X_then_ret ?_
    refine X_ret1 rfl rfl ?_
    have k' : uknown t = false := by simpa using k
    exact ⟨by unfold ucheck; rw [if_pos k'], hn1.ext⟩
  · refine W_skip ?_
    refine X_then ?_
    refine W_sub _ (.cons (i := 2) rfl (.cons (i := 1) rfl (.nil _))) ?_
    refine W_seq ?_
    refine W_region ?_
    refine L_yld (Y_fieldAddr (off := 1) (by kernel_rfl) rfl rfl) rfl rfl rfl ?_
    refine L_yld (Y_ldblk Tryd.underlying9 rfl rfl hk2 rfl) rfl rfl rfl ?_
    refine L_call (E_call (by kernel_rfl) rfl) (ref02_Format _ name (100 : Int) (by first | omega | rfl | (simp <;> omega))) rfl rfl rfl ?_
    rintro _ h2 ⟨s03, rfl, hr04, hx5⟩
    refine L_yld (Y_move rfl) rfl rfl rfl ?_
    refine L_yld (Y_extract (v := s03) rfl rfl) rfl rfl rfl ?_
    refine L_yld (Y_extract (v := .int .i64 (cerr name (100 : Int))) rfl rfl) rfl rfl rfl ?_
    refine L_yld (Y_assign rfl) rfl rfl rfl ?_
    refine L_yld (Y_assign rfl) rfl rfl rfl ?_
    refine L_nil ?_
    refine X_then ?_
    refine W_sub _ (.cons (i := 4) rfl (.cons (i := 2) rfl (.cons (i := 1) rfl (.nil _)))) ?_
    refine W_seq ?_
    refine W_seq ?_
    refine W_region ?_
    refine L_yld (Y_move rfl) rfl rfl rfl ?_
    refine L_yld (Y_neq rfl rfl) rfl rfl rfl ?_
    refine L_nil ?_
    refine X_then ?_
    refine W_sub _ (.cons (i := 16) rfl (.cons (i := 4) rfl (.cons (i := 2) rfl (.cons (i := 1) rfl (.nil _))))) ?_
    refine W_splitd rfl (fun e1 => ?_) (fun e1 => ?_)
    · refine W_seq ?_
      refine W_region ?_
      refine L_yld (Y_move rfl) rfl rfl rfl ?_
      refine L_yld (Y_assign rfl) rfl rfl rfl ?_
      refine L_nil ?_
      refine X_then ?_
      refine W_sub _ (.cons (i := 2) rfl (.cons (i := 4) rfl (.cons (i := 1) rfl (.nil _)))) ?_
      refine W_ret ?_
      refine X_then_ret ?_
      refine X_ret1 rfl rfl ?_
      have k' : ¬ uknown t = false := by simpa using k
      exact ⟨by unfold ucheck; rw [if_neg k', if_pos e1], (hn1.ext.trans hx5)⟩
    · refine W_skip ?_
      refine X_then ?_
      refine W_sub _ (.cons (i := 4) rfl (.cons (i := 2) rfl (.cons (i := 1) rfl (.nil _)))) ?_
      refine W_seq ?_
      refine W_region ?_
      refine L_yld (Y_fieldAddr (off := 3) (by kernel_rfl) rfl rfl) rfl rfl rfl ?_
      refine L_yld (Y_ldblk Tryd.underlying9 rfl rfl (hk2.ext hx5) rfl) rfl rfl rfl ?_
      refine L_call (E_call (by kernel_rfl) rfl) (ref02_Format _ link (100 : Int) (by first | omega | rfl | (simp <;> omega))) rfl rfl rfl ?_
      rintro _ h3 ⟨s06, rfl, hr07, hx8⟩
      refine L_yld (Y_move rfl) rfl rfl rfl ?_
      refine L_yld (Y_extract (v := s06) rfl rfl) rfl rfl rfl ?_
      refine L_yld (Y_extract (v := .int .i64 (cerr link (100 : Int))) rfl rfl) rfl rfl rfl ?_
      refine L_yld (Y_assign rfl) rfl rfl rfl ?_
      refine L_nil ?_
      refine X_then ?_
      refine W_sub _ (.cons (i := 4) rfl (.cons (i := 2) rfl (.cons (i := 1) rfl (.nil _)))) ?_
      refine W_seq ?_
      refine W_seq ?_
      refine W_region ?_
      refine L_yld (Y_move rfl) rfl rfl rfl ?_
      refine L_yld (Y_neq rfl rfl) rfl rfl rfl ?_
      refine L_nil ?_
      refine X_then ?_
      refine W_sub _ (.cons (i := 25) rfl (.cons (i := 4) rfl (.cons (i := 2) rfl (.cons (i := 1) rfl (.nil _))))) ?_
      refine W_splitd rfl (fun e2 => ?_) (fun e2 => ?_)
      · refine W_seq ?_
        refine W_region ?_
        refine L_yld (Y_move rfl) rfl rfl rfl ?_
        refine L_yld (Y_assign rfl) rfl rfl rfl ?_
        refine L_nil ?_
        refine X_then ?_
        refine W_sub _ (.cons (i := 2) rfl (.cons (i := 4) rfl (.cons (i := 1) rfl (.nil _)))) ?_
        refine W_ret ?_
        refine X_then_ret ?_
        refine X_ret1 rfl rfl ?_
        have k' : ¬ uknown t = false := by simpa using k
        exact ⟨by unfold ucheck; rw [if_neg k', if_neg e1, if_pos e2], ((hn1.ext.trans hx5).trans hx8)⟩
      · refine W_skip ?_
        refine X_then ?_
        refine W_sub _ (.cons (i := 4) rfl (.cons (i := 2) rfl (.cons (i := 1) rfl (.nil _)))) ?_
        refine W_seq ?_
        refine W_region ?_
        refine L_yld (Y_fieldAddr (off := 2) (by kernel_rfl) rfl rfl) rfl rfl rfl ?_
        refine L_yld (Y_ldblk Tryd.underlying9 rfl rfl (hk2.ext (hx5.trans hx8)) rfl) rfl rfl rfl ?_
        refine L_call (E_call (by kernel_rfl) rfl) (ref02_Format _ pre (155 : Int) (by first | omega | rfl | (simp <;> omega))) rfl rfl rfl ?_
        rintro _ h4 ⟨s09, rfl, hr010, hx11⟩
        refine L_yld (Y_move rfl) rfl rfl rfl ?_
        refine L_yld (Y_extract (v := s09) rfl rfl) rfl rfl rfl ?_
        refine L_yld (Y_extract (v := .int .i64 (cerr pre (155 : Int))) rfl rfl) rfl rfl rfl ?_
        refine L_yld (Y_assign rfl) rfl rfl rfl ?_
        refine L_nil ?_
        refine X_then ?_
        refine W_sub _ (.cons (i := 4) rfl (.cons (i := 2) rfl (.cons (i := 1) rfl (.nil _)))) ?_
        refine W_seq ?_
        refine W_seq ?_
        refine W_region ?_
        refine L_yld (Y_move rfl) rfl rfl rfl ?_
        refine L_yld (Y_neq rfl rfl) rfl rfl rfl ?_
        refine L_nil ?_
        refine X_then ?_
        refine W_sub _ (.cons (i := 34) rfl (.cons (i := 4) rfl (.cons (i := 2) rfl (.cons (i := 1) rfl (.nil _))))) ?_
        refine W_splitd rfl (fun e3 => ?_) (fun e3 => ?_)
        · refine W_seq ?_
          refine W_region ?_
          refine L_yld (Y_move rfl) rfl rfl rfl ?_
          refine L_yld (Y_assign rfl) rfl rfl rfl ?_
          refine L_nil ?_
          refine X_then ?_
          refine W_sub _ (.cons (i := 2) rfl (.cons (i := 1) rfl (.nil _))) ?_
          refine W_ret ?_
          refine X_then_ret ?_
          refine X_ret1 rfl rfl ?_
          have k' : ¬ uknown t = false := by simpa using k
          exact ⟨by unfold ucheck; rw [if_neg k', if_neg e1, if_neg e2, if_pos e3], (((hn1.ext.trans hx5).trans hx8).trans hx11)⟩
        · refine W_skip ?_
          refine X_then ?_
          refine W_sub _ (.cons (i := 2) rfl (.cons (i := 1) rfl (.nil _))) ?_
          refine W_seq ?_
          refine W_cut (S := Unit) (fun _ => [(43, .bool (decide ((mode < 0) ∨ (4095 < mode)))), (2, .int .i64 0), (1, .pointer (some ⟨h.size, 0, none⟩))]) (fun _ h' => h' = h4) ?_ ?_
          · refine W_region ?_
            refine L_yld (Y_fieldAddr (off := 4) (by kernel_rfl) rfl rfl) rfl rfl rfl ?_
            refine L_yld (Y_ldblk Tryd.underlying3 rfl rfl (hk2.ext ((hx5.trans hx8).trans hx11)) rfl) rfl rfl rfl ?_
            refine L_yld (Y_lss rfl rfl) rfl rfl rfl ?_
            refine L_yld (Y_move rfl) rfl rfl rfl ?_
            refine L_splitd (d := 39) rfl (fun c12 => ?_) (fun c12 => ?_)
            · refine L_skip rfl rfl rfl ?_
              refine L_skip rfl rfl rfl ?_
              refine L_skip rfl rfl rfl ?_
              refine L_yld (Y_pick_t rfl rfl) rfl rfl rfl ?_
              refine L_nil ?_
              exact X_cut () (.cons (i := 43) (lkb rfl (by simp only [eq_true c12, true_and, and_true, false_and, and_false, true_or, or_true, false_or, or_false, not_true_eq_false, not_false_eq_true, decide_true, decide_false, Bool.true_eq_false, Bool.false_eq_true, eq_self, Bool.decide_eq_true])) (.cons (i := 2) rfl (.cons (i := 1) rfl (.nil _)))) rfl
            · refine L_yld (Y_fieldAddr (off := 4) (by kernel_rfl) rfl rfl) rfl rfl rfl ?_
              refine L_yld (Y_ldblk Tryd.underlying3 rfl rfl (hk2.ext ((hx5.trans hx8).trans hx11)) rfl) rfl rfl rfl ?_
              refine L_yld (Y_gtr rfl rfl) rfl rfl rfl ?_
              refine L_yld (Y_pick_f rfl rfl) rfl rfl rfl ?_
              refine L_nil ?_
              exact X_cut () (.cons (i := 43) (lkb rfl (by simp only [eq_false c12, true_and, and_true, false_and, and_false, true_or, or_true, false_or, or_false, not_true_eq_false, not_false_eq_true, decide_true, decide_false, Bool.true_eq_false, Bool.false_eq_true, eq_self, Bool.decide_eq_true])) (.cons (i := 2) rfl (.cons (i := 1) rfl (.nil _)))) rfl
          rintro _ h4 rfl
          show W _ _ _ _ _ [(43, .bool (decide ((mode < 0) ∨ (4095 < mode)))), (2, .int .i64 0), (1, .pointer (some ⟨h.size, 0, none⟩))] _
          refine W_splitd rfl (fun m => ?_) (fun m => ?_)
          · refine W_seq ?_
            refine W_region ?_
            refine L_yld (Y_assign rfl) rfl rfl rfl ?_
            refine L_nil ?_
            refine X_then ?_
            refine W_sub _ (.cons (i := 2) rfl (.cons (i := 1) rfl (.nil _))) ?_
            refine W_ret ?_
            refine X_then_ret ?_
            refine X_ret1 rfl rfl ?_
            have k' : ¬ uknown t = false := by simpa using k
            exact ⟨by unfold ucheck; rw [if_neg k', if_neg e1, if_neg e2, if_neg e3, if_pos m], (((hn1.ext.trans hx5).trans hx8).trans hx11)⟩
          · refine W_skip ?_
            refine X_then ?_
            refine W_sub _ (.cons (i := 2) rfl (.cons (i := 1) rfl (.nil _))) ?_
            refine W_seq ?_
            refine W_cut (S := Unit) (fun _ => [(51, .bool (decide ((size < 0) ∨ (8589934591 < size)))), (2, .int .i64 0)]) (fun _ h' => h' = h4) ?_ ?_
            · refine W_region ?_
              refine L_yld (Y_fieldAddr (off := 5) (by kernel_rfl) rfl rfl) rfl rfl rfl ?_
              refine L_yld (Y_ldblk Tryd.underlying2 rfl rfl (hk2.ext ((hx5.trans hx8).trans hx11)) rfl) rfl rfl rfl ?_
              refine L_yld (Y_lss rfl rfl) rfl rfl rfl ?_
              refine L_yld (Y_move rfl) rfl rfl rfl ?_
              refine L_splitd (d := 47) rfl (fun c13 => ?_) (fun c13 => ?_)
              · refine L_skip rfl rfl rfl ?_
                refine L_skip rfl rfl rfl ?_
                refine L_skip rfl rfl rfl ?_
                refine L_yld (Y_pick_t rfl rfl) rfl rfl rfl ?_
                refine L_nil ?_
                exact X_cut () (.cons (i := 51) (lkb rfl (by simp only [eq_true c13, true_and, and_true, false_and, and_false, true_or, or_true, false_or, or_false, not_true_eq_false, not_false_eq_true, decide_true, decide_false, Bool.true_eq_false, Bool.false_eq_true, eq_self, Bool.decide_eq_true])) (.cons (i := 2) rfl (.nil _))) rfl
              · refine L_yld (Y_fieldAddr (off := 5) (by kernel_rfl) rfl rfl) rfl rfl rfl ?_
                refine L_yld (Y_ldblk Tryd.underlying2 rfl rfl (hk2.ext ((hx5.trans hx8).trans hx11)) rfl) rfl rfl rfl ?_
                refine L_yld (Y_gtr rfl rfl) rfl rfl rfl ?_
                refine L_yld (Y_pick_f rfl rfl) rfl rfl rfl ?_
                refine L_nil ?_
                exact X_cut () (.cons (i := 51) (lkb rfl (by simp only [eq_false c13, true_and, and_true, false_and, and_false, true_or, or_true, false_or, or_false, not_true_eq_false, not_false_eq_true, decide_true, decide_false, Bool.true_eq_false, Bool.false_eq_true, eq_self, Bool.decide_eq_true])) (.cons (i := 2) rfl (.nil _))) rfl
            rintro _ h4 rfl
            show W _ _ _ _ _ [(51, .bool (decide ((size < 0) ∨ (8589934591 < size)))), (2, .int .i64 0)] _
            refine W_splitd rfl (fun z => ?_) (fun z => ?_)
            · refine W_seq ?_
              refine W_region ?_
              refine L_yld (Y_assign rfl) rfl rfl rfl ?_
              refine L_nil ?_
              refine X_then ?_
              refine W_sub _ (.cons (i := 2) rfl (.nil _)) ?_
              refine W_ret ?_
              refine X_then_ret ?_
              refine X_ret1 rfl rfl ?_
              have k' : ¬ uknown t = false := by simpa using k
              exact ⟨by unfold ucheck; rw [if_neg k', if_neg e1, if_neg e2, if_neg e3, if_neg m, if_pos z], (((hn1.ext.trans hx5).trans hx8).trans hx11)⟩
            · refine W_skip ?_
              refine X_then ?_
              refine W_sub _ (.cons (i := 2) rfl (.nil _)) ?_
              refine W_seq ?_
              refine W_region ?_
              refine L_yld (Y_assign rfl) rfl rfl rfl ?_
              refine L_nil ?_
              refine X_then ?_
              refine W_ret ?_
              refine X_ret1 rfl rfl ?_
              have k' : ¬ uknown t = false := by simpa using k
              exact ⟨by unfold ucheck; rw [if_neg k', if_neg e1, if_neg e2, if_neg e3, if_neg m, if_neg z], (((hn1.ext.trans hx5).trans hx8).trans hx11)⟩

set_option maxRecDepth 100000 in
theorem ref07_text (h : Heap) (s : List UInt8) (w : Int) (hs : s.length ≤ 1048576) : Cal Tryd.prog 66 #[str s, .int .i64 (w)] h (fun v h' => v = str (cfmt s w) ∧ Ext h h') := by
  refine Cal_enter (args := [str s, .int .i64 (w)]) Tryd.func66 rfl rfl rfl (fun σ => ?_)
  refine W_seq ?_
  refine W_region ?_
  refine L_yld (Y_assign rfl) rfl rfl rfl ?_
  refine L_nil ?_
  refine X_then ?_
  refine W_seq ?_
  refine W_region ?_
  refine L_yld (Y_move rfl) rfl rfl rfl ?_
  refine L_yld (Y_move rfl) rfl rfl rfl ?_
  refine L_call (E_call (by kernel_rfl) rfl) (ref02_Format _ s w (by first | omega | rfl | (simp <;> omega))) rfl rfl rfl ?_
  rintro _ h1 ⟨s01, rfl, hr02, hx3⟩
  refine L_yld (Y_move rfl) rfl rfl rfl ?_
  refine L_yld (Y_extract (v := s01) rfl rfl) rfl rfl rfl ?_
  refine L_yld (Y_extract (v := .int .i64 (cerr s w)) rfl rfl) rfl rfl rfl ?_
  refine L_yld (Y_assign rfl) rfl rfl rfl ?_
  refine L_yld (Y_assign rfl) rfl rfl rfl ?_
  refine L_nil ?_
  refine X_then ?_
  refine W_sub _ (.cons (i := 5) rfl (.cons (i := 4) rfl (.nil _))) ?_
  refine W_seq ?_
  refine W_region ?_
  refine L_yld (Y_move rfl) rfl rfl rfl ?_
  refine L_yld (Y_bytes_str Tryd.underlying24 Tryd.underlying5 Tryd.underlying9 rfl hr02) rfl rfl rfl ?_
  refine L_yld (Y_assign rfl) rfl rfl rfl ?_
  refine L_nil ?_
  refine X_then ?_
  refine W_sub _ (.cons (i := 4) rfl (.nil _)) ?_
  refine W_ret ?_
  refine X_ret1 rfl rfl ?_
  exact ⟨rfl, hx3⟩

set_option maxRecDepth 100000 in
theorem ref07_octal (h : Heap) (n : Int) (w : Int) (hn : n ≤ 9223372036854775807) : Cal Tryd.prog 67 #[.int .i64 (n), .int .i64 (w)] h (fun v h' => v = str (octf n w) ∧ Ext h h') := by
  refine Cal_enter (args := [.int .i64 (n), .int .i64 (w)]) Tryd.func67 rfl rfl rfl (fun σ => ?_)
  refine W_seq ?_
  refine W_region ?_
  refine L_yld (Y_assign rfl) rfl rfl rfl ?_
  refine L_nil ?_
  refine X_then ?_
  refine W_seq ?_
  refine W_region ?_
  refine L_yld (Y_move rfl) rfl rfl rfl ?_
  refine L_yld (Y_move rfl) rfl rfl rfl ?_
  refine L_call (E_call (by kernel_rfl) rfl) (ref01_Format _ n w (by first | omega | rfl | (simp <;> omega))) rfl rfl rfl ?_
  rintro _ h1 ⟨s01, rfl, hr02, hx3⟩
  refine L_yld (Y_move rfl) rfl rfl rfl ?_
  refine L_yld (Y_extract (v := s01) rfl rfl) rfl rfl rfl ?_
  refine L_yld (Y_extract (v := .int .i64 (oerr n w)) rfl rfl) rfl rfl rfl ?_
  refine L_yld (Y_assign rfl) rfl rfl rfl ?_
  refine L_yld (Y_assign rfl) rfl rfl rfl ?_
  refine L_nil ?_
  refine X_then ?_
  refine W_sub _ (.cons (i := 5) rfl (.cons (i := 4) rfl (.nil _))) ?_
  refine W_seq ?_
  refine W_region ?_
  refine L_yld (Y_move rfl) rfl rfl rfl ?_
  refine L_yld (Y_bytes_str Tryd.underlying24 Tryd.underlying5 Tryd.underlying9 rfl hr02) rfl rfl rfl ?_
  refine L_yld (Y_assign rfl) rfl rfl rfl ?_
  refine L_nil ?_
  refine X_then ?_
  refine W_sub _ (.cons (i := 4) rfl (.nil _)) ?_
  refine W_ret ?_
  refine X_ret1 rfl rfl ?_
  exact ⟨rfl, hx3⟩

theorem cfmt_len (s : List UInt8) (w : Int) : (cfmt s w).length ≤ 256 := by
  unfold cfmt
  split
  · rename_i h
    unfold cerr at h
    split at h
    · cases h
    · split at h
      · cases h
      · split at h
        · cases h
        · simp; omega
  · simp
theorem octf_len (n w : Int) : (octf n w).length ≤ 22 := by
  unfold octf
  split
  · rename_i h
    unfold oerr at h
    split at h
    · cases h
    · simp [octD_length]; omega
  · simp
def ubody (t : Int) (name pre link : List UInt8) (mode size : Int) : List UInt8 :=
  cfmt name 100 ++ octf mode 8 ++ octf 0 8 ++ octf 0 8 ++ octf size 12 ++ octf 0 12 ++ [32, 32, 32, 32, 32, 32, 32, 32] ++ [t.toNat.toUInt8] ++ cfmt link 100 ++ [117, 115, 116, 97, 114, 0, 48, 48] ++ cfmt [] 32 ++ cfmt [] 32 ++ octf 0 8 ++ octf 0 8 ++ cfmt pre 155 ++ cfmt [] 12
def uenc (t : Int) (name pre link : List UInt8) (mode size : Int) : List UInt8 := if ucheck t name pre link mode size = 0 then sseal (ubody t name pre link mode size) else []

end Go.Xp
