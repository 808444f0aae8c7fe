/- Layer 7: the law UstarLimits. -/
import Derived.Test.YtlkkefiffjiliaaDoorUstLaw
import Derived.Test.YtlkkefiffjiliaaDoorRepeat
set_option linter.unusedSimpArgs false
set_option linter.unusedVariables false
namespace Go.Xp
open Go.Proofs

theorem cerr_rep (k : Nat) {w : Int} (hw : 1 ≤ w ∧ w ≤ 256) : cerr (Lib.repeatL [120] k) w = if w < k then 7 else 0 := by
  rw [repeatL_one]
  unfold cerr
  rw [if_neg (by omega), if_neg (by intro h; have := List.eq_of_mem_replicate h; cases this)]
  simp
theorem cerr_nil {w : Int} (hw : 1 ≤ w ∧ w ≤ 256) : cerr [] w = 0 := by
  unfold cerr
  rw [if_neg (by omega), if_neg (by simp), if_neg (by simp; omega)]
theorem lim_name (k : Nat) : ucheck 53 (Lib.repeatL [120] k) [] [] 0 0 = if (100 : Int) < k then 7 else 0 := by
  have e1 := cerr_rep k (w := 100) (by decide)
  have e2 := cerr_nil (w := 100) (by decide)
  have e3 := cerr_nil (w := 155) (by decide)
  unfold ucheck
  rw [e1, e2, e3, if_neg (by decide)]
  by_cases hk : (100 : Int) < k <;> simp [hk]
theorem lim_link (k : Nat) : ucheck 53 [] [] (Lib.repeatL [120] k) 0 0 = if (100 : Int) < k then 7 else 0 := by
  have e1 := cerr_rep k (w := 100) (by decide)
  have e2 := cerr_nil (w := 100) (by decide)
  have e3 := cerr_nil (w := 155) (by decide)
  unfold ucheck
  rw [e1, e2, e3, if_neg (by decide)]
  by_cases hk : (100 : Int) < k <;> simp [hk]
theorem lim_pre (k : Nat) : ucheck 53 [] (Lib.repeatL [120] k) [] 0 0 = if (155 : Int) < k then 7 else 0 := by
  have e1 := cerr_rep k (w := 155) (by decide)
  have e2 := cerr_nil (w := 100) (by decide)
  unfold ucheck
  rw [e1, e2, if_neg (by decide)]
  by_cases hk : (155 : Int) < k <;> simp [hk]
theorem rep_len (k : Nat) : (Lib.repeatL [120] k).length = k := by rw [repeatL_one]; simp

set_option maxRecDepth 100000 in
theorem law07_Limits (h : Heap) (hG : Glb h) (n : Int) (w : Int) (hn : 0 ≤ n ∧ n ≤ 65535) (hw : 0 ≤ w ∧ w ≤ 255) : Cal Tryd.prog 5 #[.int .u16 (n), .int .u8 (w)] h (fun v h' => v = .bool true ∧ Ext h h') := by
  have hr : (Lib.repeatL [120] (n % 300).toNat).length = (n % 300).toNat := rep_len _
  have hn2 : 0 ≤ n % 300 ∧ n % 300 < 300 := by omega
  have hi : ((n % 300).toNat : Int) = n % 300 := by omega
  refine Cal_enter (args := [.int .u16 (n), .int .u8 (w)]) Tryd.func5 rfl rfl rfl (fun σ => ?_)
  refine W_seq ?_
  refine W_region ?_
  refine L_yld (Y_assign rfl) rfl rfl rfl ?_
  refine L_nil ?_
  refine X_then ?_
  refine W_seq ?_
  refine W_region ?_
  refine L_yld (Y_move rfl) rfl rfl rfl ?_
  refine L_yld (Y_convs Tryd.underlying35 Tryd.underlying3 rfl (wrap_i64 (by omega) (by omega))) rfl rfl rfl ?_
  refine L_yld (Y_rem rfl rfl (by omega) (by omega)) rfl rfl rfl ?_
  refine L_call (E_call (by kernel_rfl) rfl) (strings_Repeat _ [120] (n % 300) (by first | omega | rfl | (simp <;> omega)) (by first | omega | rfl | (simp <;> omega))) rfl rfl rfl ?_
  rintro _ h1 ⟨rfl, hx1⟩
  refine L_yld (Y_assign rfl) rfl rfl rfl ?_
  refine L_nil ?_
  refine X_then ?_
  refine W_sub _ (.cons (i := 5) rfl (.cons (i := 4) rfl (.cons (i := 1) rfl (.nil _)))) ?_
  refine W_seq ?_
  refine W_region ?_
  refine L_yld (Y_build (v := .agg #[.int .u8 53, str [], str [], str [], .int .i64 0, .int .i64 0]) (pv := [(0, .int .u8 53)]) (evp (is := [0]) (os := [.const (.int .u8 53)]) (vs := [.int .u8 53]) rfl rfl) (fun _ => by kernel_rfl)) rfl rfl rfl ?_
  refine L_mks (M_alloc (u := .agg #[.int .u8 0, str [], str [], str [], .int .i64 0, .int .i64 0]) (by kernel_rfl)) rfl rfl rfl ?_
  rintro _ h2 ⟨rfl, hn2⟩
  have hk3 : Blk h2 h1.size [.int .u8 0, str [], str [], str [], .int .i64 0, .int .i64 0] := hn2.blk
  refine L_dos (D_store (us := [.int .u8 53, str [], str [], str [], .int .i64 0, .int .i64 0]) (show _ = some 6 by kernel_rfl) rfl rfl rfl (by simp [Value.oneCell']) hk3 (by simp)) rfl rfl ?_
  rintro h3 hp4
  have hk5 : Blk h3 h1.size [.int .u8 53, str [], str [], str [], .int .i64 0, .int .i64 0] := hp4.blk
  refine L_nil ?_
  refine X_then ?_
  refine W_sub _ (.cons (i := 6) rfl (.cons (i := 5) rfl (.cons (i := 4) rfl (.cons (i := 1) rfl (.nil _))))) ?_
  refine W_seq ?_
  refine W_region ?_
  refine L_yld (Y_assign rfl) rfl rfl rfl ?_
  refine L_nil ?_
  refine X_then ?_
  refine W_seq ?_
  refine W_seq ?_
  refine W_region ?_
  refine L_yld (Y_move rfl) rfl rfl rfl ?_
  refine L_yld (Y_rem rfl rfl (by omega) (by omega)) rfl rfl rfl ?_
  refine L_nil ?_
  refine X_then ?_
  refine W_sub _ (.cons (i := 15) rfl (.cons (i := 7) rfl (.cons (i := 6) rfl (.cons (i := 5) rfl (.cons (i := 4) rfl (.nil _)))))) ?_
  refine W_block ?_
  refine W_seq ?_
  refine W_region ?_
  refine L_yld (Y_eql rfl rfl) rfl rfl rfl ?_
  refine L_yld (Y_assign rfl) rfl rfl rfl ?_
  refine L_nil ?_
  refine X_then ?_
  refine W_sub _ (.cons (i := 16) rfl (.cons (i := 15) rfl (.cons (i := 7) rfl (.cons (i := 6) rfl (.cons (i := 5) rfl (.cons (i := 4) rfl (.nil _))))))) ?_
  refine W_splitd rfl (fun g0 => ?_) (fun g0 => ?_)
  · refine W_region ?_
    refine L_yld (Y_move rfl) rfl rfl rfl ?_
    refine L_yld (Y_fieldAddr (off := 1) (by kernel_rfl) rfl rfl) rfl rfl rfl ?_
    refine L_dos (D_store (us := [str (Lib.repeatL [120] (n % 300).toNat)]) (show _ = some 1 by kernel_rfl) rfl rfl rfl (by simp [Value.oneCell']) hk5 (by simp)) rfl rfl ?_
    rintro h4 hp6
    have hk7 : Blk h4 h1.size [.int .u8 53, str (Lib.repeatL [120] (n % 300).toNat), str [], str [], .int .i64 0, .int .i64 0] := hp6.blk
    refine L_nil ?_
    refine X_block ?_
    refine X_then ?_
    refine W_sub _ (.cons (i := 7) rfl (.cons (i := 6) rfl (.cons (i := 5) rfl (.cons (i := 4) rfl (.nil _))))) ?_
    refine W_seq ?_
    refine W_region ?_
    refine L_yld (Y_ldbox (us := [.int .u8 53, str (Lib.repeatL [120] (n % 300).toNat), str [], str [], .int .i64 0, .int .i64 0]) Tryd.underlying23 rfl (show _ = some 6 by kernel_rfl) rfl hk7 rfl) rfl rfl rfl ?_
    refine L_call (E_call (by kernel_rfl) rfl) (ustar_Check _ (hG.ext (((hx1.trans hn2.ext).then' hp4.only (by simp) hx1.size).then' hp6.only (by simp) hx1.size)) (53 : Int) (Lib.repeatL [120] (n % 300).toNat) [] [] (0 : Int) (0 : Int) (by first | omega | rfl | (simp <;> omega))) rfl rfl rfl ?_
    rintro _ h5 ⟨rfl, hx8⟩
    refine L_yld (Y_assign rfl) rfl rfl rfl ?_
    refine L_nil ?_
    refine X_then ?_
    refine W_sub _ (.cons (i := 8) rfl (.cons (i := 7) rfl (.cons (i := 5) rfl (.cons (i := 4) rfl (.nil _))))) ?_
    refine W_cut (S := Unit) (fun _ => [(4, .bool (decide (((ucheck (53 : Int) (Lib.repeatL [120] (n % 300).toNat) [] [] (0 : Int) (0 : Int)) = 0) ∨ ((ucheck (53 : Int) (Lib.repeatL [120] (n % 300).toNat) [] [] (0 : Int) (0 : Int)) = 7))))]) (fun _ h' => Ext h5 h') ?_ ?_
    · refine W_region ?_
      refine L_call (E_call (by kernel_rfl) rfl) (law07_alive _ (hG.ext ((((hx1.trans hn2.ext).then' hp4.only (by simp) hx1.size).then' hp6.only (by simp) hx1.size).trans hx8))) rfl rfl rfl ?_
      rintro _ h6 ⟨rfl, hx9⟩
      refine L_yld (Y_move rfl) rfl rfl rfl ?_
      refine L_yld (Y_move rfl) rfl rfl rfl ?_
      refine L_yld (Y_eql rfl rfl) rfl rfl rfl ?_
      refine L_yld (Y_move rfl) rfl rfl rfl ?_
      refine L_yld (Y_slen Tryd.underlying9 rfl) rfl rfl rfl ?_
      refine L_yld (Y_move rfl) rfl rfl rfl ?_
      refine L_yld (Y_leq rfl rfl) rfl rfl rfl ?_
      refine L_yld (Y_beql Tryd.underlying4 rfl rfl) rfl rfl rfl ?_
      refine L_yld (Y_pick_t rfl rfl) rfl rfl rfl ?_
      refine L_yld (Y_move rfl) rfl rfl rfl ?_
      refine L_known (d := 40) true rfl (by rw [lim_name, hr, hi]; by_cases hq : n % 300 ≤ 100 <;> simp [hq, show (100 < n % 300) ↔ ¬ (n % 300 ≤ 100) from by omega]) ?_
      refine L_yld (Y_move rfl) rfl rfl rfl ?_
      refine L_yld (Y_eql rfl rfl) rfl rfl rfl ?_
      refine L_yld (Y_move rfl) rfl rfl rfl ?_
      refine L_splitd (d := 43) rfl (fun c10 => ?_) (fun c10 => ?_)
      · refine L_skip rfl rfl rfl ?_
        refine L_skip rfl rfl rfl ?_
        refine L_yld (Y_pick_t rfl rfl) rfl rfl rfl ?_
        refine L_yld (Y_pick_t rfl rfl) rfl rfl rfl ?_
        refine L_yld (Y_assign rfl) rfl rfl rfl ?_
        refine L_nil ?_
        exact X_cut () (.cons (i := 4) (lkb rfl (by simp only [eq_true c10, true_and, and_true, false_and, and_false, true_or, or_true, false_or, or_false, not_true_eq_false, not_false_eq_true, decide_true, decide_false, Bool.true_eq_false, Bool.false_eq_true, eq_self, Bool.decide_eq_true])) (.nil _)) hx9
      · refine L_yld (Y_move rfl) rfl rfl rfl ?_
        refine L_yld (Y_eql rfl rfl) rfl rfl rfl ?_
        refine L_yld (Y_pick_f rfl rfl) rfl rfl rfl ?_
        refine L_yld (Y_pick_t rfl rfl) rfl rfl rfl ?_
        refine L_yld (Y_assign rfl) rfl rfl rfl ?_
        refine L_nil ?_
        exact X_cut () (.cons (i := 4) (lkb rfl (by simp only [eq_false c10, true_and, and_true, false_and, and_false, true_or, or_true, false_or, or_false, not_true_eq_false, not_false_eq_true, decide_true, decide_false, Bool.true_eq_false, Bool.false_eq_true, eq_self, Bool.decide_eq_true])) (.nil _)) hx9
    rintro _ h7 hx11
    show W _ _ _ _ _ [(4, .bool (decide (((ucheck (53 : Int) (Lib.repeatL [120] (n % 300).toNat) [] [] (0 : Int) (0 : Int)) = 0) ∨ ((ucheck (53 : Int) (Lib.repeatL [120] (n % 300).toNat) [] [] (0 : Int) (0 : Int)) = 7))))] _
    refine W_ret ?_
    refine X_ret1 rfl rfl ?_
    exact ⟨by simp only [lim_name, lim_link, lim_pre, hi]; split <;> simp, (((((hx1.trans hn2.ext).then' hp4.only (by simp) hx1.size).then' hp6.only (by simp) hx1.size).trans hx8).trans hx11)⟩
  · refine W_seq ?_
    refine W_region ?_
    refine L_yld (Y_eql rfl rfl) rfl rfl rfl ?_
    refine L_yld (Y_assign rfl) rfl rfl rfl ?_
    refine L_nil ?_
    refine X_then ?_
    refine W_sub _ (.cons (i := 20) rfl (.cons (i := 15) rfl (.cons (i := 7) rfl (.cons (i := 6) rfl (.cons (i := 5) rfl (.cons (i := 4) rfl (.nil _))))))) ?_
    refine W_splitd rfl (fun g1 => ?_) (fun g1 => ?_)
    · refine W_region ?_
      refine L_yld (Y_move rfl) rfl rfl rfl ?_
      refine L_yld (Y_fieldAddr (off := 3) (by kernel_rfl) rfl rfl) rfl rfl rfl ?_
      refine L_dos (D_store (us := [str (Lib.repeatL [120] (n % 300).toNat)]) (show _ = some 1 by kernel_rfl) rfl rfl rfl (by simp [Value.oneCell']) hk5 (by simp)) rfl rfl ?_
      rintro h8 hp12
      have hk13 : Blk h8 h1.size [.int .u8 53, str [], str [], str (Lib.repeatL [120] (n % 300).toNat), .int .i64 0, .int .i64 0] := hp12.blk
      refine L_nil ?_
      refine X_block ?_
      refine X_then ?_
      refine W_sub _ (.cons (i := 7) rfl (.cons (i := 6) rfl (.cons (i := 5) rfl (.cons (i := 4) rfl (.nil _))))) ?_
      refine W_seq ?_
      refine W_region ?_
      refine L_yld (Y_ldbox (us := [.int .u8 53, str [], str [], str (Lib.repeatL [120] (n % 300).toNat), .int .i64 0, .int .i64 0]) Tryd.underlying23 rfl (show _ = some 6 by kernel_rfl) rfl hk13 rfl) rfl rfl rfl ?_
      refine L_call (E_call (by kernel_rfl) rfl) (ustar_Check _ (hG.ext (((hx1.trans hn2.ext).then' hp4.only (by simp) hx1.size).then' hp12.only (by simp) hx1.size)) (53 : Int) [] [] (Lib.repeatL [120] (n % 300).toNat) (0 : Int) (0 : Int) (by first | omega | rfl | (simp <;> omega))) rfl rfl rfl ?_
      rintro _ h9 ⟨rfl, hx14⟩
      refine L_yld (Y_assign rfl) rfl rfl rfl ?_
      refine L_nil ?_
      refine X_then ?_
      refine W_sub _ (.cons (i := 8) rfl (.cons (i := 7) rfl (.cons (i := 5) rfl (.cons (i := 4) rfl (.nil _))))) ?_
      refine W_cut (S := Unit) (fun _ => [(4, .bool (decide (((ucheck (53 : Int) [] [] (Lib.repeatL [120] (n % 300).toNat) (0 : Int) (0 : Int)) = 0) ∨ ((ucheck (53 : Int) [] [] (Lib.repeatL [120] (n % 300).toNat) (0 : Int) (0 : Int)) = 7))))]) (fun _ h' => Ext h9 h') ?_ ?_
      · refine W_region ?_
        refine L_call (E_call (by kernel_rfl) rfl) (law07_alive _ (hG.ext ((((hx1.trans hn2.ext).then' hp4.only (by simp) hx1.size).then' hp12.only (by simp) hx1.size).trans hx14))) rfl rfl rfl ?_
        rintro _ h10 ⟨rfl, hx15⟩
        refine L_yld (Y_move rfl) rfl rfl rfl ?_
        refine L_yld (Y_move rfl) rfl rfl rfl ?_
        refine L_yld (Y_eql rfl rfl) rfl rfl rfl ?_
        refine L_yld (Y_move rfl) rfl rfl rfl ?_
        refine L_yld (Y_slen Tryd.underlying9 rfl) rfl rfl rfl ?_
        refine L_yld (Y_move rfl) rfl rfl rfl ?_
        refine L_yld (Y_leq rfl rfl) rfl rfl rfl ?_
        refine L_yld (Y_beql Tryd.underlying4 rfl rfl) rfl rfl rfl ?_
        refine L_yld (Y_pick_t rfl rfl) rfl rfl rfl ?_
        refine L_yld (Y_move rfl) rfl rfl rfl ?_
        refine L_known (d := 40) true rfl (by rw [lim_link, hr, hi]; by_cases hq : n % 300 ≤ 100 <;> simp [hq, show (100 < n % 300) ↔ ¬ (n % 300 ≤ 100) from by omega]) ?_
        refine L_yld (Y_move rfl) rfl rfl rfl ?_
        refine L_yld (Y_eql rfl rfl) rfl rfl rfl ?_
        refine L_yld (Y_move rfl) rfl rfl rfl ?_
        refine L_splitd (d := 43) rfl (fun c16 => ?_) (fun c16 => ?_)
        · refine L_skip rfl rfl rfl ?_
          refine L_skip rfl rfl rfl ?_
          refine L_yld (Y_pick_t rfl rfl) rfl rfl rfl ?_
          refine L_yld (Y_pick_t rfl rfl) rfl rfl rfl ?_
          refine L_yld (Y_assign rfl) rfl rfl rfl ?_
          refine L_nil ?_
          exact X_cut () (.cons (i := 4) (lkb rfl (by simp only [eq_true c16, true_and, and_true, false_and, and_false, true_or, or_true, false_or, or_false, not_true_eq_false, not_false_eq_true, decide_true, decide_false, Bool.true_eq_false, Bool.false_eq_true, eq_self, Bool.decide_eq_true])) (.nil _)) hx15
        · refine L_yld (Y_move rfl) rfl rfl rfl ?_
          refine L_yld (Y_eql rfl rfl) rfl rfl rfl ?_
          refine L_yld (Y_pick_f rfl rfl) rfl rfl rfl ?_
          refine L_yld (Y_pick_t rfl rfl) rfl rfl rfl ?_
          refine L_yld (Y_assign rfl) rfl rfl rfl ?_
          refine L_nil ?_
          exact X_cut () (.cons (i := 4) (lkb rfl (by simp only [eq_false c16, true_and, and_true, false_and, and_false, true_or, or_true, false_or, or_false, not_true_eq_false, not_false_eq_true, decide_true, decide_false, Bool.true_eq_false, Bool.false_eq_true, eq_self, Bool.decide_eq_true])) (.nil _)) hx15
      rintro _ h11 hx17
      show W _ _ _ _ _ [(4, .bool (decide (((ucheck (53 : Int) [] [] (Lib.repeatL [120] (n % 300).toNat) (0 : Int) (0 : Int)) = 0) ∨ ((ucheck (53 : Int) [] [] (Lib.repeatL [120] (n % 300).toNat) (0 : Int) (0 : Int)) = 7))))] _
      refine W_ret ?_
      refine X_ret1 rfl rfl ?_
      exact ⟨by simp only [lim_name, lim_link, lim_pre, hi]; split <;> simp, (((((hx1.trans hn2.ext).then' hp4.only (by simp) hx1.size).then' hp12.only (by simp) hx1.size).trans hx14).trans hx17)⟩
    · refine W_seq ?_
      refine W_region ?_
      refine L_yld (Y_eql rfl rfl) rfl rfl rfl ?_
      refine L_yld (Y_assign rfl) rfl rfl rfl ?_
      refine L_nil ?_
      refine X_then ?_
      refine W_sub _ (.cons (i := 24) rfl (.cons (i := 7) rfl (.cons (i := 6) rfl (.cons (i := 5) rfl (.cons (i := 4) rfl (.nil _)))))) ?_
      refine W_known true rfl (by exact decide_eq_true (by omega)) ?_
      refine W_seq ?_
      refine W_region ?_
      refine L_yld (Y_move rfl) rfl rfl rfl ?_
      refine L_yld (Y_fieldAddr (off := 2) (by kernel_rfl) rfl rfl) rfl rfl rfl ?_
      refine L_dos (D_store (us := [str (Lib.repeatL [120] (n % 300).toNat)]) (show _ = some 1 by kernel_rfl) rfl rfl rfl (by simp [Value.oneCell']) hk5 (by simp)) rfl rfl ?_
      rintro h12 hp18
      have hk19 : Blk h12 h1.size [.int .u8 53, str [], str (Lib.repeatL [120] (n % 300).toNat), str [], .int .i64 0, .int .i64 0] := hp18.blk
      refine L_nil ?_
      refine X_then ?_
      refine W_sub _ (.cons (i := 7) rfl (.cons (i := 6) rfl (.cons (i := 5) rfl (.cons (i := 4) rfl (.nil _))))) ?_
      refine W_region ?_
      refine L_yld (Y_assign rfl) rfl rfl rfl ?_
      refine L_nil ?_
      refine X_block ?_
      refine X_then ?_
      refine W_seq ?_
      refine W_region ?_
      refine L_yld (Y_ldbox (us := [.int .u8 53, str [], str (Lib.repeatL [120] (n % 300).toNat), str [], .int .i64 0, .int .i64 0]) Tryd.underlying23 rfl (show _ = some 6 by kernel_rfl) rfl hk19 rfl) rfl rfl rfl ?_
      refine L_call (E_call (by kernel_rfl) rfl) (ustar_Check _ (hG.ext (((hx1.trans hn2.ext).then' hp4.only (by simp) hx1.size).then' hp18.only (by simp) hx1.size)) (53 : Int) [] (Lib.repeatL [120] (n % 300).toNat) [] (0 : Int) (0 : Int) (by first | omega | rfl | (simp <;> omega))) rfl rfl rfl ?_
      rintro _ h13 ⟨rfl, hx20⟩
      refine L_yld (Y_assign rfl) rfl rfl rfl ?_
      refine L_nil ?_
      refine X_then ?_
      refine W_sub _ (.cons (i := 8) rfl (.cons (i := 7) rfl (.cons (i := 5) rfl (.cons (i := 4) rfl (.nil _))))) ?_
      refine W_cut (S := Unit) (fun _ => [(4, .bool (decide (((ucheck (53 : Int) [] (Lib.repeatL [120] (n % 300).toNat) [] (0 : Int) (0 : Int)) = 0) ∨ ((ucheck (53 : Int) [] (Lib.repeatL [120] (n % 300).toNat) [] (0 : Int) (0 : Int)) = 7))))]) (fun _ h' => Ext h13 h') ?_ ?_
      · refine W_region ?_
        refine L_call (E_call (by kernel_rfl) rfl) (law07_alive _ (hG.ext ((((hx1.trans hn2.ext).then' hp4.only (by simp) hx1.size).then' hp18.only (by simp) hx1.size).trans hx20))) rfl rfl rfl ?_
        rintro _ h14 ⟨rfl, hx21⟩
        refine L_yld (Y_move rfl) rfl rfl rfl ?_
        refine L_yld (Y_move rfl) rfl rfl rfl ?_
        refine L_yld (Y_eql rfl rfl) rfl rfl rfl ?_
        refine L_yld (Y_move rfl) rfl rfl rfl ?_
        refine L_yld (Y_slen Tryd.underlying9 rfl) rfl rfl rfl ?_
        refine L_yld (Y_move rfl) rfl rfl rfl ?_
        refine L_yld (Y_leq rfl rfl) rfl rfl rfl ?_
        refine L_yld (Y_beql Tryd.underlying4 rfl rfl) rfl rfl rfl ?_
        refine L_yld (Y_pick_t rfl rfl) rfl rfl rfl ?_
        refine L_yld (Y_move rfl) rfl rfl rfl ?_
        refine L_known (d := 40) true rfl (by rw [lim_pre, hr, hi]; by_cases hq : n % 300 ≤ 155 <;> simp [hq, show (155 < n % 300) ↔ ¬ (n % 300 ≤ 155) from by omega]) ?_
        refine L_yld (Y_move rfl) rfl rfl rfl ?_
        refine L_yld (Y_eql rfl rfl) rfl rfl rfl ?_
        refine L_yld (Y_move rfl) rfl rfl rfl ?_
        refine L_splitd (d := 43) rfl (fun c22 => ?_) (fun c22 => ?_)
        · refine L_skip rfl rfl rfl ?_
          refine L_skip rfl rfl rfl ?_
          refine L_yld (Y_pick_t rfl rfl) rfl rfl rfl ?_
          refine L_yld (Y_pick_t rfl rfl) rfl rfl rfl ?_
          refine L_yld (Y_assign rfl) rfl rfl rfl ?_
          refine L_nil ?_
          exact X_cut () (.cons (i := 4) (lkb rfl (by simp only [eq_true c22, true_and, and_true, false_and, and_false, true_or, or_true, false_or, or_false, not_true_eq_false, not_false_eq_true, decide_true, decide_false, Bool.true_eq_false, Bool.false_eq_true, eq_self, Bool.decide_eq_true])) (.nil _)) hx21
        · refine L_yld (Y_move rfl) rfl rfl rfl ?_
          refine L_yld (Y_eql rfl rfl) rfl rfl rfl ?_
          refine L_yld (Y_pick_f rfl rfl) rfl rfl rfl ?_
          refine L_yld (Y_pick_t rfl rfl) rfl rfl rfl ?_
          refine L_yld (Y_assign rfl) rfl rfl rfl ?_
          refine L_nil ?_
          exact X_cut () (.cons (i := 4) (lkb rfl (by simp only [eq_false c22, true_and, and_true, false_and, and_false, true_or, or_true, false_or, or_false, not_true_eq_false, not_false_eq_true, decide_true, decide_false, Bool.true_eq_false, Bool.false_eq_true, eq_self, Bool.decide_eq_true])) (.nil _)) hx21
      rintro _ h15 hx23
      show W _ _ _ _ _ [(4, .bool (decide (((ucheck (53 : Int) [] (Lib.repeatL [120] (n % 300).toNat) [] (0 : Int) (0 : Int)) = 0) ∨ ((ucheck (53 : Int) [] (Lib.repeatL [120] (n % 300).toNat) [] (0 : Int) (0 : Int)) = 7))))] _
      refine W_ret ?_
      refine X_ret1 rfl rfl ?_
      exact ⟨by simp only [lim_name, lim_link, lim_pre, hi]; split <;> simp, (((((hx1.trans hn2.ext).then' hp4.only (by simp) hx1.size).then' hp18.only (by simp) hx1.size).trans hx20).trans hx23)⟩

end Go.Xp
