/- Layer 7: the law UstarDecodeMatchesReference. -/
import Derived.Test.YtmmpnieglihhnaaDoorUstF
import Derived.Test.YtmmpnieglihhnaaDoorOf
import Derived.Test.YtmmpnieglihhnaaDoorEq
set_option linter.unusedSimpArgs false
set_option linter.unusedVariables false
set_option linter.unusedSectionVars false
namespace Go.Xp
open Go.Proofs

set_option maxRecDepth 100000 in
theorem law07_Decode (h : Heap) (hG : Glb h) (v : Value) (b : List UInt8) (hb : Bytes h v b) (hm : b.length ≤ 140737488355328) : Cal Tryd.prog 4 #[v] h (fun v h' => v = .bool true ∧ Ext h h') := by
  refine Cal_enter (args := [v]) Tryd.func4 rfl rfl rfl (fun σ => ?_)
  refine W_seq ?_
  refine W_region ?_
  refine L_yld (Y_assign rfl) rfl rfl rfl ?_
  refine L_nil ?_
  refine X_then ?_
  refine W_seq ?_
  refine W_seq ?_
  refine W_region ?_
  refine L_yld (Y_move rfl) rfl rfl rfl ?_
  refine L_yld (Y_len Tryd.underlying24 rfl hb) rfl rfl rfl ?_
  refine L_yld (Y_gtr rfl rfl) rfl rfl rfl ?_
  refine L_nil ?_
  refine X_then ?_
  refine W_sub _ (.cons (i := 9) rfl (.cons (i := 2) rfl (.cons (i := 0) rfl (.nil _)))) ?_
  refine W_splitd rfl (fun g => ?_) (fun g => ?_)
  · refine W_seq ?_
    refine W_region ?_
    refine L_call (E_call (by kernel_rfl) rfl) (law07_alive _ hG) rfl rfl rfl ?_
    rintro _ h1 ⟨rfl, hx1⟩
    refine L_yld (Y_assign rfl) rfl rfl rfl ?_
    refine L_nil ?_
    refine X_then ?_
    refine W_sub _ (.cons (i := 2) rfl (.cons (i := 0) rfl (.nil _))) ?_
    refine W_ret ?_
    refine X_then_ret ?_
    refine X_ret1 rfl rfl ?_
    exact ⟨by simp, hx1⟩
  · refine W_skip ?_
    refine X_then ?_
    refine W_sub _ (.cons (i := 2) rfl (.cons (i := 0) rfl (.nil _))) ?_
    refine W_seq ?_
    refine W_region ?_
    refine L_yld (Y_move rfl) rfl rfl rfl ?_
    refine L_call (E_call (by kernel_rfl) rfl) (ustar_Decode _ hG v b hb (by first | omega | rfl | (simp <;> omega))) rfl rfl rfl ?_
    rintro _ h2 ⟨rfl, hx2⟩
    refine L_yld (Y_move rfl) rfl rfl rfl ?_
    refine L_yld (Y_extract (v := .agg #[.int .u8 (udT b), str (udN b), str (udP b), str (udL b), .int .i64 (udM b), .int .i64 (udS b)]) rfl rfl) rfl rfl rfl ?_
    refine L_yld (Y_extract (v := .int .i64 (uderr b)) rfl rfl) rfl rfl rfl ?_
    refine L_mks (M_alloc (u := .agg #[.int .u8 0, str [], str [], str [], .int .i64 0, .int .i64 0]) (by kernel_rfl)) rfl rfl rfl ?_
    rintro _ h3 ⟨rfl, hn3⟩
    have hk4 : Blk h3 h2.size [.int .u8 0, str [], str [], str [], .int .i64 0, .int .i64 0] := hn3.blk
    refine L_dos (D_store (us := [.int .u8 (udT b), str (udN b), str (udP b), str (udL b), .int .i64 (udM b), .int .i64 (udS b)]) (show _ = some 6 by kernel_rfl) rfl rfl rfl (by simp [Value.oneCell']) hk4 (by simp)) rfl rfl ?_
    rintro h4 hp5
    have hk6 : Blk h4 h2.size [.int .u8 (udT b), str (udN b), str (udP b), str (udL b), .int .i64 (udM b), .int .i64 (udS b)] := hp5.blk
    refine L_yld (Y_assign rfl) rfl rfl rfl ?_
    refine L_nil ?_
    refine X_then ?_
    refine W_sub _ (.cons (i := 4) rfl (.cons (i := 3) rfl (.cons (i := 2) rfl (.cons (i := 0) rfl (.nil _))))) ?_
    refine W_seq ?_
    refine W_region ?_
    refine L_yld (Y_move rfl) rfl rfl rfl ?_
    refine L_call (E_call (by kernel_rfl) rfl) (ref07_Decode _ v b (hb.ext ((hx2.trans hn3.ext).then' hp5.only (by simp) hx2.size)) (by first | omega | rfl | (simp <;> omega))) rfl rfl rfl ?_
    rintro _ h5 ⟨rfl, hx7⟩
    refine L_yld (Y_move rfl) rfl rfl rfl ?_
    refine L_yld (Y_extract (v := .agg #[.int .u8 (udT b), str (udN b), str (udP b), str (udL b), .int .i64 (udM b), .int .i64 (udS b)]) rfl rfl) rfl rfl rfl ?_
    refine L_yld (Y_extract (v := .int .i64 (uderr b)) rfl rfl) rfl rfl rfl ?_
    refine L_mks (M_alloc (u := .agg #[.int .u8 0, str [], str [], str [], .int .i64 0, .int .i64 0]) (by kernel_rfl)) rfl rfl rfl ?_
    rintro _ h6 ⟨rfl, hn8⟩
    have hk9 : Blk h6 h5.size [.int .u8 0, str [], str [], str [], .int .i64 0, .int .i64 0] := hn8.blk
    refine L_dos (D_store (us := [.int .u8 (udT b), str (udN b), str (udP b), str (udL b), .int .i64 (udM b), .int .i64 (udS b)]) (show _ = some 6 by kernel_rfl) rfl rfl rfl (by simp [Value.oneCell']) hk9 (by simp)) rfl rfl ?_
    rintro h7 hp10
    have hk11 : Blk h7 h5.size [.int .u8 (udT b), str (udN b), str (udP b), str (udL b), .int .i64 (udM b), .int .i64 (udS b)] := hp10.blk
    refine L_yld (Y_assign rfl) rfl rfl rfl ?_
    refine L_nil ?_
    refine X_then ?_
    refine W_sub _ (.cons (i := 6) rfl (.cons (i := 5) rfl (.cons (i := 4) rfl (.cons (i := 3) rfl (.cons (i := 2) rfl (.nil _)))))) ?_
    refine W_seq ?_
    refine W_pers [(6, .int .i64 (uderr b)), (5, .pointer (some ⟨h5.size, 0, none⟩)), (4, .int .i64 (uderr b)), (3, .pointer (some ⟨h2.size, 0, none⟩))] (.cons (i := 6) rfl (.cons (i := 5) rfl (.cons (i := 4) rfl (.cons (i := 3) rfl (.nil _))))) (by kernel_rfl) ?_
    refine LP_op 0 (fun _ vv => .bool true = vv) [] rfl rfl (by kernel_rfl) (fun _ _ _ _ p => p) ?_ ?_
    · intro h8 hx12
      refine Needs_nil ?_
      refine Stp_call (E_call (by kernel_rfl) rfl) (law07_alive _ (hG.ext ((((((hx2.trans hn3.ext).then' hp5.only (by simp) hx2.size).trans hx7).trans hn8.ext).then' hp10.only (by simp) (Nat.le_trans (Nat.le_trans (Nat.le_trans hx2.size hn3.ext.size) hp5.only.size) hx7.size)).trans hx12))) rfl ?_
      rintro _ h9 ⟨rfl, hx13⟩
      exact ⟨hx13, rfl⟩
    refine LP_op 1 (fun _ vv => .bool true = vv) [(0, 21)] rfl rfl (by kernel_rfl) (fun _ _ _ _ p => p) ?_ ?_
    · intro h10 hx14
      rintro _ rfl
      refine Needs_nil ?_
      refine Stp_yld (Y_move rfl) rfl ?_
      exact rfl
    refine LP_op 2 (fun _ vv => .agg #[.int .u8 (udT b), str (udN b), str (udP b), str (udL b), .int .i64 (udM b), .int .i64 (udS b)] = vv) [(1, 22)] rfl rfl (by kernel_rfl) (fun _ _ _ _ p => p) ?_ ?_
    · intro h11 hx15
      rintro _ rfl
      refine Needs_nil ?_
      refine Stp_yld (Y_ldbox (us := [.int .u8 (udT b), str (udN b), str (udP b), str (udL b), .int .i64 (udM b), .int .i64 (udS b)]) Tryd.underlying32 rfl (show _ = some 6 by kernel_rfl) rfl (hk6.ext (((hx7.trans hn8.ext).then' hp10.only (by simp) hx7.size).trans hx15)) rfl) rfl ?_
      exact rfl
    refine LP_op 3 (fun _ vv => .agg #[.int .u8 ((udT b)), str (udN b), str (udP b), str (udL b), .int .i64 ((udM b)), .int .i64 ((udS b))] = vv) [(1, 22), (2, 23)] rfl rfl (by kernel_rfl) (fun _ _ _ _ p => p) ?_ ?_
    · intro h12 hx16
      rintro _ rfl
      rintro _ rfl
      refine Needs_nil ?_
      refine Stp_call (E_call (by kernel_rfl) rfl) (law07_Of _ (udT b) (udN b) (udP b) (udL b) (udM b) (udS b)) rfl ?_
      rintro _ h13 ⟨rfl, hx17⟩
      exact ⟨hx17, rfl⟩
    refine LP_op 4 (fun _ vv => .agg #[.int .u8 (udT b), str (udN b), str (udP b), str (udL b), .int .i64 (udM b), .int .i64 (udS b)] = vv) [(1, 22)] rfl rfl (by kernel_rfl) (fun _ _ _ _ p => p) ?_ ?_
    · intro h14 hx18
      rintro _ rfl
      refine Needs_nil ?_
      refine Stp_yld (Y_ldbox (us := [.int .u8 (udT b), str (udN b), str (udP b), str (udL b), .int .i64 (udM b), .int .i64 (udS b)]) Tryd.underlying39 rfl (show _ = some 6 by kernel_rfl) rfl (hk11.ext hx18) rfl) rfl ?_
      exact rfl
    refine LP_op 5 (fun _ vv => .bool (decide ((udT b) = (udT b) ∧ (udN b) = (udN b) ∧ (udP b) = (udP b) ∧ (udL b) = (udL b) ∧ (udM b) = (udM b) ∧ (udS b) = (udS b))) = vv) [(3, 24), (4, 25), (1, 22)] rfl rfl (by kernel_rfl) (fun _ _ _ _ p => p) ?_ ?_
    · intro h15 hx19
      rintro _ rfl
      rintro _ rfl
      rintro _ rfl
      refine Needs_nil ?_
      refine Stp_yld (Y_steql (xs := [.int .u8 ((udT b)), str (udN b), str (udP b), str (udL b), .int .i64 ((udM b)), .int .i64 ((udS b))]) (ys := [.int .u8 (udT b), str (udN b), str (udP b), str (udL b), .int .i64 (udM b), .int .i64 (udS b)]) (r := decide ((udT b) = (udT b) ∧ (udN b) = (udN b) ∧ (udP b) = (udP b) ∧ (udL b) = (udL b) ∧ (udM b) = (udM b) ∧ (udS b) = (udS b))) (by kernel_rfl) (by kernel_rfl) (by kernel_rfl) rfl rfl (steq (ks := [.i .u8, .s, .s, .s, .i .i64, .i .i64]) (by kernel_rfl) (by simp [eqks, eqk]))) rfl ?_
      exact rfl
    refine LP_op 6 (fun _ vv => .bool (decide ((udT b) = (udT b) ∧ (udN b) = (udN b) ∧ (udP b) = (udP b) ∧ (udL b) = (udL b) ∧ (udM b) = (udM b) ∧ (udS b) = (udS b))) = vv) [(5, 26), (1, 22)] rfl rfl (by kernel_rfl) (fun _ _ _ _ p => p) ?_ ?_
    · intro h16 hx20
      rintro _ rfl
      rintro _ rfl
      refine Needs_nil ?_
      refine Stp_yld (Y_pick_t rfl rfl) rfl ?_
      exact rfl
    refine LP_op 7 (fun _ vv => .bool true = vv) [(6, 27)] rfl rfl (by kernel_rfl) (fun _ _ _ _ p => p) ?_ ?_
    · intro h17 hx21
      rintro _ rfl
      refine Needs_nil ?_
      refine Stp_yld (Y_move rfl) rfl ?_
      exact (congrArg Value.bool (decide_eq_true (by simp))).symm
    refine LP_op 8 (fun _ vv => .int .i64 (uderr b) = vv) [(7, 28)] rfl rfl (by kernel_rfl) (fun _ _ _ _ p => p) ?_ ?_
    · intro h18 hx22
      rintro _ rfl
      refine Needs_nil ?_
      refine Stp_yld (Y_move rfl) rfl ?_
      exact rfl
    refine LP_op 9 (fun _ vv => .int .i64 (uderr b) = vv) [(7, 28)] rfl rfl (by kernel_rfl) (fun _ _ _ _ p => p) ?_ ?_
    · intro h19 hx23
      rintro _ rfl
      refine Needs_nil ?_
      refine Stp_yld (Y_move rfl) rfl ?_
      exact rfl
    refine LP_op 10 (fun _ vv => .bool (decide ((uderr b) = (uderr b))) = vv) [(7, 28), (8, 29), (9, 30)] rfl rfl (by kernel_rfl) (fun _ _ _ _ p => p) ?_ ?_
    · intro h20 hx24
      rintro _ rfl
      rintro _ rfl
      rintro _ rfl
      refine Needs_nil ?_
      refine Stp_yld (Y_eql rfl rfl) rfl ?_
      exact rfl
    refine LP_op 11 (fun _ vv => .bool (decide ((uderr b) = (uderr b))) = vv) [(7, 28), (10, 31)] rfl rfl (by kernel_rfl) (fun _ _ _ _ p => p) ?_ ?_
    · intro h21 hx25
      rintro _ rfl
      rintro _ rfl
      refine Needs_nil ?_
      refine Stp_yld (Y_pick_t rfl rfl) rfl ?_
      exact rfl
    refine LP_op 12 (fun _ vv => .bool (decide ((uderr b) = (uderr b))) = vv) [(11, 32)] rfl rfl (by kernel_rfl) (fun _ _ _ _ p => p) ?_ ?_
    · intro h22 hx26
      rintro _ rfl
      refine Needs_nil ?_
      refine Stp_yld (Y_assign rfl) rfl ?_
      exact rfl
    refine LP_end [(12, 2)] rfl (by kernel_rfl) rfl ?_
    intro h23 hx27
    rintro _ rfl
    refine Needs_nil ?_
    refine X_then ?_
    refine W_sub _ (.cons (i := 2) rfl (.nil _)) ?_
    refine W_ret ?_
    refine X_ret1 rfl rfl ?_
    exact ⟨by simp, ((((((hx2.trans hn3.ext).then' hp5.only (by simp) hx2.size).trans hx7).trans hn8.ext).then' hp10.only (by simp) (Nat.le_trans (Nat.le_trans (Nat.le_trans hx2.size hn3.ext.size) hp5.only.size) hx7.size)).trans hx27)⟩

end Go.Xp
