/- Layer 10 (fit): the laws. -/
import Derived.Test.YtkcgabodpcfohaaDoorFitR
set_option linter.unusedSimpArgs false
set_option linter.unusedVariables false
set_option linter.unusedSectionVars false
namespace Go.Xp
open Go.Proofs

theorem alive10_check : fcheck 1 [97] 0 [] 8589934592 = 0 := by decide +kernel
theorem alive10_recs : frecs [97] [] 8589934592 = [⟨[115, 105, 122, 101], [56, 53, 56, 57, 57, 51, 52, 53, 57, 50]⟩] := by decide +kernel
theorem alive10_name : snam [97] = [97] := by decide +kernel

set_option maxRecDepth 100000 in
theorem law10_alive (h : Heap) (hK : GlbK h) (hN : GlbN h) (hE : GlbE h) (hT : GlbT h) : Cal Tryd.prog 29 #[] h (fun v h' => v = .bool true ∧ Ext h h') := by
  refine Cal_enter (args := []) Tryd.func29 rfl rfl rfl (fun σ => ?_)
  refine W_seq ?_
  refine W_region ?_
  refine L_yld (Y_assign rfl) rfl rfl rfl ?_
  refine L_nil ?_
  refine X_then ?_
  refine W_seq ?_
  refine W_region ?_
  refine L_yld (Y_build (v := .agg #[.int .i64 1, str [97], .int .i64 0, str [], .int .i64 8589934592]) (pv := [(0, .int .i64 1), (1, str [97]), (4, .int .i64 8589934592)]) (evp (is := [0, 1, 4]) (os := [.const (.int .i64 1), .const (str [97]), .const (.int .i64 8589934592)]) (vs := [.int .i64 1, str [97], .int .i64 8589934592]) rfl rfl) (fun _ => by kernel_rfl)) rfl rfl rfl ?_
  refine L_call (E_call (by kernel_rfl) rfl) (fit_Plan _ hK hN hE hT (1 : Int) [97] (0 : Int) [] (8589934592 : Int) (by first | first | omega | (rw [fR, if_pos alive10_check, alive10_recs]; decide) | rfl | (simp <;> omega)) (by first | first | omega | (rw [fR, if_pos alive10_check, alive10_recs]; decide) | rfl | (simp <;> omega)) (by first | first | omega | (rw [fR, if_pos alive10_check, alive10_recs]; decide) | rfl | (simp <;> omega))) rfl rfl rfl ?_
  rintro _ h1 ⟨s11, rfl, hr12, hx3⟩
  refine L_yld (Y_move rfl) rfl rfl rfl ?_
  refine L_yld (Y_extract (v := .agg #[.int .u8 (fT (fcheck (1 : Int) [97] (0 : Int) [] (8589934592 : Int)) (1 : Int)), str (fN (fcheck (1 : Int) [97] (0 : Int) [] (8589934592 : Int)) [97]), str (fP (fcheck (1 : Int) [97] (0 : Int) [] (8589934592 : Int)) [97]), str (fL (fcheck (1 : Int) [97] (0 : Int) [] (8589934592 : Int)) []), .int .i64 (fM (fcheck (1 : Int) [97] (0 : Int) [] (8589934592 : Int)) (0 : Int)), .int .i64 (fZ (fcheck (1 : Int) [97] (0 : Int) [] (8589934592 : Int)) (8589934592 : Int))]) rfl rfl) rfl rfl rfl ?_
  refine L_yld (Y_extract (v := s11) rfl rfl) rfl rfl rfl ?_
  refine L_yld (Y_extract (v := .int .i64 (fcheck (1 : Int) [97] (0 : Int) [] (8589934592 : Int))) rfl rfl) rfl rfl rfl ?_
  refine L_mks (M_alloc (u := .agg #[.int .u8 0, str [], str [], str [], .int .i64 0, .int .i64 0]) (by kernel_rfl)) rfl rfl rfl ?_
  rintro _ h2 ⟨rfl, hn4⟩
  have hk5 : Blk h2 h1.size [.int .u8 0, str [], str [], str [], .int .i64 0, .int .i64 0] := hn4.blk
  refine L_dos (D_store (us := [.int .u8 (fT (fcheck (1 : Int) [97] (0 : Int) [] (8589934592 : Int)) (1 : Int)), str (fN (fcheck (1 : Int) [97] (0 : Int) [] (8589934592 : Int)) [97]), str (fP (fcheck (1 : Int) [97] (0 : Int) [] (8589934592 : Int)) [97]), str (fL (fcheck (1 : Int) [97] (0 : Int) [] (8589934592 : Int)) []), .int .i64 (fM (fcheck (1 : Int) [97] (0 : Int) [] (8589934592 : Int)) (0 : Int)), .int .i64 (fZ (fcheck (1 : Int) [97] (0 : Int) [] (8589934592 : Int)) (8589934592 : Int))]) (show _ = some 6 by kernel_rfl) rfl rfl rfl (by simp [Value.oneCell']) hk5 (by simp)) rfl rfl ?_
  rintro h3 hp6
  have hk7 : Blk h3 h1.size [.int .u8 (fT (fcheck (1 : Int) [97] (0 : Int) [] (8589934592 : Int)) (1 : Int)), str (fN (fcheck (1 : Int) [97] (0 : Int) [] (8589934592 : Int)) [97]), str (fP (fcheck (1 : Int) [97] (0 : Int) [] (8589934592 : Int)) [97]), str (fL (fcheck (1 : Int) [97] (0 : Int) [] (8589934592 : Int)) []), .int .i64 (fM (fcheck (1 : Int) [97] (0 : Int) [] (8589934592 : Int)) (0 : Int)), .int .i64 (fZ (fcheck (1 : Int) [97] (0 : Int) [] (8589934592 : Int)) (8589934592 : Int))] := hp6.blk
  refine L_yld (Y_assign rfl) rfl rfl rfl ?_
  refine L_yld (Y_assign rfl) rfl rfl rfl ?_
  refine L_nil ?_
  refine X_then ?_
  refine W_sub _ (.cons (i := 3) rfl (.cons (i := 2) rfl (.cons (i := 1) rfl (.cons (i := 0) rfl (.nil _))))) ?_
  refine W_seq ?_
  refine W_region ?_
  refine L_yld (Y_move rfl) rfl rfl rfl ?_
  refine L_yld (Y_eql rfl rfl) rfl rfl rfl ?_
  refine L_yld (Y_move rfl) rfl rfl rfl ?_
  refine L_known (d := 12) true rfl (by exact decide_eq_true (by exact alive10_check)) ?_
  refine L_yld (Y_fieldAddr (off := 5) (by kernel_rfl) rfl rfl) rfl rfl rfl ?_
  refine L_yld (Y_ldblk Tryd.underlying2 rfl rfl hk7 rfl) rfl rfl rfl ?_
  refine L_yld (Y_eql rfl rfl) rfl rfl rfl ?_
  refine L_yld (Y_pick_t rfl rfl) rfl rfl rfl ?_
  refine L_yld (Y_move rfl) rfl rfl rfl ?_
  refine L_known (d := 17) true rfl (by exact decide_eq_true (by rw [fZ, if_pos alive10_check]; rfl)) ?_
  refine L_yld (Y_fieldAddr (off := 1) (by kernel_rfl) rfl rfl) rfl rfl rfl ?_
  refine L_yld (Y_ldblk Tryd.underlying9 rfl rfl hk7 rfl) rfl rfl rfl ?_
  refine L_yld (Y_seql rfl rfl) rfl rfl rfl ?_
  refine L_yld (Y_pick_t rfl rfl) rfl rfl rfl ?_
  refine L_yld (Y_move rfl) rfl rfl rfl ?_
  refine L_known (d := 22) true rfl (by exact decide_eq_true (by rw [fN, if_pos alive10_check]; exact alive10_name)) ?_
  refine L_yld (Y_move rfl) rfl rfl rfl ?_
  refine L_yld (Y_lenr Tryd.underlying22 rfl (hr12.rows.ext (hn4.ext.then' hp6.only (by simp) (Nat.le_refl _)))) rfl rfl rfl ?_
  refine L_yld (Y_eql rfl rfl) rfl rfl rfl ?_
  refine L_yld (Y_pick_t rfl rfl) rfl rfl rfl ?_
  refine L_yld (Y_move rfl) rfl rfl rfl ?_
  refine L_known (d := 27) true rfl (by exact decide_eq_true (by rw [fR, if_pos alive10_check, alive10_recs]; rfl)) ?_
  refine L_yld (Y_move rfl) rfl rfl rfl ?_
  refine L_yld (Y_idxr Tryd.underlying22 (show _ = some 2 by kernel_rfl) rfl rfl rfl (hr12.rows.ext (hn4.ext.then' hp6.only (by simp) (Nat.le_refl _))) (by first | omega | (rw [fR, if_pos alive10_check, alive10_recs]; decide)) (by first | omega | (rw [fR, if_pos alive10_check, alive10_recs]; decide))) rfl rfl rfl ?_
  refine L_yld (Y_ldrA0 (k := 0) (us := [str ((at_rec (fR (fcheck (1 : Int) [97] (0 : Int) [] (8589934592 : Int)) [97] [] (8589934592 : Int)) 0).key), str ((at_rec (fR (fcheck (1 : Int) [97] (0 : Int) [] (8589934592 : Int)) [97] [] (8589934592 : Int)) 0).val)]) Tryd.underlying30 rfl (show _ = some 2 by kernel_rfl) rfl rfl (hr12.rows.ext (hn4.ext.then' hp6.only (by simp) (Nat.le_refl _))) (by first | omega | (rw [fR, if_pos alive10_check, alive10_recs]; decide)) rfl) rfl rfl rfl ?_
  refine L_yld (Y_build (v := .agg #[str [115, 105, 122, 101], str [56, 53, 56, 57, 57, 51, 52, 53, 57, 50]]) (pv := [(0, str [115, 105, 122, 101]), (1, str [56, 53, 56, 57, 57, 51, 52, 53, 57, 50])]) (evp (is := [0, 1]) (os := [.const (str [115, 105, 122, 101]), .const (str [56, 53, 56, 57, 57, 51, 52, 53, 57, 50])]) (vs := [str [115, 105, 122, 101], str [56, 53, 56, 57, 57, 51, 52, 53, 57, 50]]) rfl rfl) (fun _ => by kernel_rfl)) rfl rfl rfl ?_
  refine L_yld (Y_steql (xs := [str ((at_rec (fR (fcheck (1 : Int) [97] (0 : Int) [] (8589934592 : Int)) [97] [] (8589934592 : Int)) 0).key), str ((at_rec (fR (fcheck (1 : Int) [97] (0 : Int) [] (8589934592 : Int)) [97] [] (8589934592 : Int)) 0).val)]) (ys := [str [115, 105, 122, 101], str [56, 53, 56, 57, 57, 51, 52, 53, 57, 50]]) (r := decide (((at_rec (fR (fcheck (1 : Int) [97] (0 : Int) [] (8589934592 : Int)) [97] [] (8589934592 : Int)) 0).key) = [115, 105, 122, 101] ∧ ((at_rec (fR (fcheck (1 : Int) [97] (0 : Int) [] (8589934592 : Int)) [97] [] (8589934592 : Int)) 0).val) = [56, 53, 56, 57, 57, 51, 52, 53, 57, 50])) (by kernel_rfl) (by kernel_rfl) (by kernel_rfl) rfl rfl (steq (ks := [.s, .s]) (by kernel_rfl) (by simp [eqks, eqk]))) rfl rfl rfl ?_
  refine L_yld (Y_pick_t rfl rfl) rfl rfl rfl ?_
  refine L_yld (Y_assign rfl) rfl rfl rfl ?_
  refine L_nil ?_
  refine X_then ?_
  refine W_sub _ (.cons (i := 0) rfl (.nil _)) ?_
  refine W_ret ?_
  refine X_ret1 rfl rfl ?_
  exact ⟨congrArg Value.bool (decide_eq_true (by rw [fR, if_pos alive10_check, alive10_recs]; exact ⟨rfl, rfl⟩)), ((hx3.trans hn4.ext).then' hp6.only (by simp) hx3.size)⟩

theorem fR_len (c : Int) (p tg : List UInt8) (z : Int) : (fR c p tg z).length ≤ 3 := by
  unfold fR frecs
  split
  · simp only [List.length_append]; split <;> split <;> split <;> simp
  · simp

set_option maxRecDepth 100000 in
theorem fitPlanMatchesReference (h : Heap) (hK : GlbK h) (hN : GlbN h) (hE : GlbE h) (hT : GlbT h) (k : Int) (p : List UInt8) (m : Int) (tg : List UInt8) (z : Int) (hk : -9223372036854775808 ≤ k ∧ k ≤ 9223372036854775807) (hp : p.length ≤ 140737488355328) (hm : -9223372036854775808 ≤ m ∧ m ≤ 9223372036854775807) (ht : tg.length ≤ 140737488355328) (hz : -9223372036854775808 ≤ z ∧ z ≤ 9223372036854775807) : Cal Tryd.prog 9 #[.agg #[.int .i64 (k), str p, .int .i64 (m), str tg, .int .i64 (z)]] h (fun v h' => v = .bool true ∧ Ext h h') := by
  refine Cal_enter (args := [.agg #[.int .i64 (k), str p, .int .i64 (m), str tg, .int .i64 (z)]]) Tryd.func9 rfl rfl rfl (fun σ => ?_)
  refine W_seq ?_
  refine W_region ?_
  refine L_mks (M_box rfl) rfl rfl rfl ?_
  rintro _ h1 ⟨rfl, hn1⟩
  have hk2 : Blk h1 h.size [.int .i64 (k), str p, .int .i64 (m), str tg, .int .i64 (z)] := hn1.blk
  refine L_yld (Y_assign rfl) rfl rfl rfl ?_
  refine L_nil ?_
  refine X_then ?_
  refine W_sub _ (.cons (i := 2) rfl (.cons (i := 1) rfl (.nil _))) ?_
  refine W_seq ?_
  refine W_seq ?_
  refine W_region ?_
  refine L_yld (Y_ldbox (us := [.int .i64 (k), str p, .int .i64 (m), str tg, .int .i64 (z)]) Tryd.underlying46 rfl (show _ = some 5 by kernel_rfl) rfl hk2 rfl) rfl rfl rfl ?_
  refine L_call (E_call (by kernel_rfl) rfl) (law10_TooLarge _ k p m tg z (by first | first | omega | (exact Nat.le_trans (fR_len _ _ _ _) (by decide)) | rfl | (simp <;> omega)) (by first | first | omega | (exact Nat.le_trans (fR_len _ _ _ _) (by decide)) | rfl | (simp <;> omega))) rfl rfl rfl ?_
  rintro _ h2 ⟨rfl, hx3⟩
  refine L_yld (Y_gtr rfl rfl) rfl rfl rfl ?_
  refine L_nil ?_
  refine X_then ?_
  refine W_sub _ (.cons (i := 11) rfl (.cons (i := 2) rfl (.cons (i := 1) rfl (.nil _)))) ?_
  refine W_splitd rfl (fun g => ?_) (fun g => ?_)
  · refine W_seq ?_
    refine W_region ?_
    refine L_call (E_call (by kernel_rfl) rfl) (law10_alive _ (hK.ext (hn1.ext.trans hx3)) (hN.ext (hn1.ext.trans hx3)) (hE.ext (hn1.ext.trans hx3)) (hT.ext (hn1.ext.trans hx3))) rfl rfl rfl ?_
    rintro _ h3 ⟨rfl, hx4⟩
    refine L_yld (Y_assign rfl) rfl rfl rfl ?_
    refine L_nil ?_
    refine X_then ?_
    refine W_sub _ (.cons (i := 2) rfl (.cons (i := 1) rfl (.nil _))) ?_
    refine W_ret ?_
    refine X_then_ret ?_
    refine X_ret1 rfl rfl ?_
    exact ⟨rfl, ((hn1.ext.trans hx3).trans hx4)⟩
  · refine W_skip ?_
    refine X_then ?_
    refine W_sub _ (.cons (i := 2) rfl (.cons (i := 1) rfl (.nil _))) ?_
    refine W_seq ?_
    refine W_region ?_
    refine L_yld (Y_ldbox (us := [.int .i64 (k), str p, .int .i64 (m), str tg, .int .i64 (z)]) Tryd.underlying46 rfl (show _ = some 5 by kernel_rfl) rfl (hk2.ext hx3) rfl) rfl rfl rfl ?_
    refine L_call (E_call (by kernel_rfl) rfl) (fit_Plan _ (hK.ext (hn1.ext.trans hx3)) (hN.ext (hn1.ext.trans hx3)) (hE.ext (hn1.ext.trans hx3)) (hT.ext (hn1.ext.trans hx3)) k p m tg z (by first | first | omega | (exact Nat.le_trans (fR_len _ _ _ _) (by decide)) | rfl | (simp <;> omega)) (by first | first | omega | (exact Nat.le_trans (fR_len _ _ _ _) (by decide)) | rfl | (simp <;> omega)) (by first | first | omega | (exact Nat.le_trans (fR_len _ _ _ _) (by decide)) | rfl | (simp <;> omega))) rfl rfl rfl ?_
    rintro _ h4 ⟨s15, rfl, hr16, hx7⟩
    refine L_yld (Y_move rfl) rfl rfl rfl ?_
    refine L_yld (Y_extract (v := .agg #[.int .u8 (fT (fcheck k p m tg z) k), str (fN (fcheck k p m tg z) p), str (fP (fcheck k p m tg z) p), str (fL (fcheck k p m tg z) tg), .int .i64 (fM (fcheck k p m tg z) m), .int .i64 (fZ (fcheck k p m tg z) z)]) rfl rfl) rfl rfl rfl ?_
    refine L_yld (Y_extract (v := s15) rfl rfl) rfl rfl rfl ?_
    refine L_yld (Y_extract (v := .int .i64 (fcheck k p m tg z)) rfl rfl) rfl rfl rfl ?_
    refine L_mks (M_alloc (u := .agg #[.int .u8 0, str [], str [], str [], .int .i64 0, .int .i64 0]) (by kernel_rfl)) rfl rfl rfl ?_
    rintro _ h5 ⟨rfl, hn8⟩
    have hk9 : Blk h5 h4.size [.int .u8 0, str [], str [], str [], .int .i64 0, .int .i64 0] := hn8.blk
    refine L_dos (D_store (us := [.int .u8 (fT (fcheck k p m tg z) k), str (fN (fcheck k p m tg z) p), str (fP (fcheck k p m tg z) p), str (fL (fcheck k p m tg z) tg), .int .i64 (fM (fcheck k p m tg z) m), .int .i64 (fZ (fcheck k p m tg z) z)]) (show _ = some 6 by kernel_rfl) rfl rfl rfl (by simp [Value.oneCell']) hk9 (by simp)) rfl rfl ?_
    rintro h6 hp10
    have hk11 : Blk h6 h4.size [.int .u8 (fT (fcheck k p m tg z) k), str (fN (fcheck k p m tg z) p), str (fP (fcheck k p m tg z) p), str (fL (fcheck k p m tg z) tg), .int .i64 (fM (fcheck k p m tg z) m), .int .i64 (fZ (fcheck k p m tg z) z)] := hp10.blk
    refine L_yld (Y_assign rfl) rfl rfl rfl ?_
    refine L_yld (Y_assign rfl) rfl rfl rfl ?_
    refine L_nil ?_
    refine X_then ?_
    refine W_sub _ (.cons (i := 5) rfl (.cons (i := 4) rfl (.cons (i := 3) rfl (.cons (i := 2) rfl (.cons (i := 1) rfl (.nil _)))))) ?_
    refine W_seq ?_
    refine W_region ?_
    refine L_yld (Y_ldbox (us := [.int .i64 (k), str p, .int .i64 (m), str tg, .int .i64 (z)]) Tryd.underlying46 rfl (show _ = some 5 by kernel_rfl) rfl (hk2.ext (((hx3.trans hx7).trans hn8.ext).then' hp10.only (by simp) (Nat.le_trans hx3.size hx7.size))) rfl) rfl rfl rfl ?_
    refine L_call (E_call (by kernel_rfl) rfl) (ref10_Plan _ k p m tg z (by first | first | omega | (exact Nat.le_trans (fR_len _ _ _ _) (by decide)) | rfl | (simp <;> omega)) (by first | first | omega | (exact Nat.le_trans (fR_len _ _ _ _) (by decide)) | rfl | (simp <;> omega)) (by first | first | omega | (exact Nat.le_trans (fR_len _ _ _ _) (by decide)) | rfl | (simp <;> omega))) rfl rfl rfl ?_
    rintro _ h7 ⟨s112, rfl, hr113, hx14⟩
    refine L_yld (Y_move rfl) rfl rfl rfl ?_
    refine L_yld (Y_extract (v := .agg #[.int .u8 (fT (fcheck k p m tg z) k), str (fN (fcheck k p m tg z) p), str (fP (fcheck k p m tg z) p), str (fL (fcheck k p m tg z) tg), .int .i64 (fM (fcheck k p m tg z) m), .int .i64 (fZ (fcheck k p m tg z) z)]) rfl rfl) rfl rfl rfl ?_
    refine L_yld (Y_extract (v := s112) rfl rfl) rfl rfl rfl ?_
    refine L_yld (Y_extract (v := .int .i64 (fcheck k p m tg z)) rfl rfl) rfl rfl rfl ?_
    refine L_mks (M_alloc (u := .agg #[.int .u8 0, str [], str [], str [], .int .i64 0, .int .i64 0]) (by kernel_rfl)) rfl rfl rfl ?_
    rintro _ h8 ⟨rfl, hn15⟩
    have hk16 : Blk h8 h7.size [.int .u8 0, str [], str [], str [], .int .i64 0, .int .i64 0] := hn15.blk
    refine L_dos (D_store (us := [.int .u8 (fT (fcheck k p m tg z) k), str (fN (fcheck k p m tg z) p), str (fP (fcheck k p m tg z) p), str (fL (fcheck k p m tg z) tg), .int .i64 (fM (fcheck k p m tg z) m), .int .i64 (fZ (fcheck k p m tg z) z)]) (show _ = some 6 by kernel_rfl) rfl rfl rfl (by simp [Value.oneCell']) hk16 (by simp)) rfl rfl ?_
    rintro h9 hp17
    have hk18 : Blk h9 h7.size [.int .u8 (fT (fcheck k p m tg z) k), str (fN (fcheck k p m tg z) p), str (fP (fcheck k p m tg z) p), str (fL (fcheck k p m tg z) tg), .int .i64 (fM (fcheck k p m tg z) m), .int .i64 (fZ (fcheck k p m tg z) z)] := hp17.blk
    refine L_yld (Y_assign rfl) rfl rfl rfl ?_
    refine L_yld (Y_assign rfl) rfl rfl rfl ?_
    refine L_nil ?_
    refine X_then ?_
    refine W_sub _ (.cons (i := 8) rfl (.cons (i := 7) rfl (.cons (i := 6) rfl (.cons (i := 5) rfl (.cons (i := 4) rfl (.cons (i := 3) rfl (.cons (i := 2) rfl (.cons (i := 1) rfl (.nil _))))))))) ?_
    refine W_seq ?_
    refine W_pers [(8, .int .i64 (fcheck k p m tg z)), (7, s112), (6, .pointer (some ⟨h7.size, 0, none⟩)), (5, .int .i64 (fcheck k p m tg z)), (4, s15), (3, .pointer (some ⟨h4.size, 0, none⟩)), (1, .pointer (some ⟨h.size, 0, none⟩))] (.cons (i := 8) rfl (.cons (i := 7) rfl (.cons (i := 6) rfl (.cons (i := 5) rfl (.cons (i := 4) rfl (.cons (i := 3) rfl (.cons (i := 1) rfl (.nil _)))))))) (by kernel_rfl) ?_
    refine LP_op 0 (fun _ vv => .bool true = vv) [] rfl rfl (by kernel_rfl) (fun _ _ _ _ p => p) ?_ ?_
    · intro h10 hx19
      refine Needs_nil ?_
      refine Stp_call (E_call (by kernel_rfl) rfl) (law10_alive _ (hK.ext ((((((((hn1.ext.trans hx3).trans hx7).trans hn8.ext).then' hp10.only (by simp) (Nat.le_trans (Nat.le_trans hn1.ext.size hx3.size) hx7.size)).trans hx14).trans hn15.ext).then' hp17.only (by simp) (Nat.le_trans (Nat.le_trans (Nat.le_trans (Nat.le_trans (Nat.le_trans hn1.ext.size hx3.size) hx7.size) hn8.ext.size) hp10.only.size) hx14.size)).trans hx19)) (hN.ext ((((((((hn1.ext.trans hx3).trans hx7).trans hn8.ext).then' hp10.only (by simp) (Nat.le_trans (Nat.le_trans hn1.ext.size hx3.size) hx7.size)).trans hx14).trans hn15.ext).then' hp17.only (by simp) (Nat.le_trans (Nat.le_trans (Nat.le_trans (Nat.le_trans (Nat.le_trans hn1.ext.size hx3.size) hx7.size) hn8.ext.size) hp10.only.size) hx14.size)).trans hx19)) (hE.ext ((((((((hn1.ext.trans hx3).trans hx7).trans hn8.ext).then' hp10.only (by simp) (Nat.le_trans (Nat.le_trans hn1.ext.size hx3.size) hx7.size)).trans hx14).trans hn15.ext).then' hp17.only (by simp) (Nat.le_trans (Nat.le_trans (Nat.le_trans (Nat.le_trans (Nat.le_trans hn1.ext.size hx3.size) hx7.size) hn8.ext.size) hp10.only.size) hx14.size)).trans hx19)) (hT.ext ((((((((hn1.ext.trans hx3).trans hx7).trans hn8.ext).then' hp10.only (by simp) (Nat.le_trans (Nat.le_trans hn1.ext.size hx3.size) hx7.size)).trans hx14).trans hn15.ext).then' hp17.only (by simp) (Nat.le_trans (Nat.le_trans (Nat.le_trans (Nat.le_trans (Nat.le_trans hn1.ext.size hx3.size) hx7.size) hn8.ext.size) hp10.only.size) hx14.size)).trans hx19))) rfl ?_
      rintro _ h11 ⟨rfl, hx20⟩
      exact ⟨hx20, rfl⟩
    refine LP_op 1 (fun _ vv => .bool true = vv) [(0, 25)] rfl rfl (by kernel_rfl) (fun _ _ _ _ p => p) ?_ ?_
    · intro h12 hx21
      rintro _ rfl
      refine Needs_nil ?_
      refine Stp_yld (Y_move rfl) rfl ?_
      exact rfl
    refine LP_op 2 (fun _ vv => .agg #[.int .u8 (fT (fcheck k p m tg z) k), str (fN (fcheck k p m tg z) p), str (fP (fcheck k p m tg z) p), str (fL (fcheck k p m tg z) tg), .int .i64 (fM (fcheck k p m tg z) m), .int .i64 (fZ (fcheck k p m tg z) z)] = vv) [(1, 26)] rfl rfl (by kernel_rfl) (fun _ _ _ _ p => p) ?_ ?_
    · intro h13 hx22
      rintro _ rfl
      refine Needs_nil ?_
      refine Stp_yld (Y_ldbox (us := [.int .u8 (fT (fcheck k p m tg z) k), str (fN (fcheck k p m tg z) p), str (fP (fcheck k p m tg z) p), str (fL (fcheck k p m tg z) tg), .int .i64 (fM (fcheck k p m tg z) m), .int .i64 (fZ (fcheck k p m tg z) z)]) Tryd.underlying48 rfl (show _ = some 6 by kernel_rfl) rfl (hk11.ext (((hx14.trans hn15.ext).then' hp17.only (by simp) hx14.size).trans hx22)) rfl) rfl ?_
      exact rfl
    refine LP_op 3 (fun _ vv => .agg #[.int .u8 ((fT (fcheck k p m tg z) k)), str (fN (fcheck k p m tg z) p), str (fP (fcheck k p m tg z) p), str (fL (fcheck k p m tg z) tg), .int .i64 ((fM (fcheck k p m tg z) m)), .int .i64 ((fZ (fcheck k p m tg z) z))] = vv) [(1, 26), (2, 27)] rfl rfl (by kernel_rfl) (fun _ _ _ _ p => p) ?_ ?_
    · intro h14 hx23
      rintro _ rfl
      rintro _ rfl
      refine Needs_nil ?_
      refine Stp_call (E_call (by kernel_rfl) rfl) (law07_Of _ (fT (fcheck k p m tg z) k) (fN (fcheck k p m tg z) p) (fP (fcheck k p m tg z) p) (fL (fcheck k p m tg z) tg) (fM (fcheck k p m tg z) m) (fZ (fcheck k p m tg z) z)) rfl ?_
      rintro _ h15 ⟨rfl, hx24⟩
      exact ⟨hx24, rfl⟩
    refine LP_op 4 (fun _ vv => .agg #[.int .u8 (fT (fcheck k p m tg z) k), str (fN (fcheck k p m tg z) p), str (fP (fcheck k p m tg z) p), str (fL (fcheck k p m tg z) tg), .int .i64 (fM (fcheck k p m tg z) m), .int .i64 (fZ (fcheck k p m tg z) z)] = vv) [(1, 26)] rfl rfl (by kernel_rfl) (fun _ _ _ _ p => p) ?_ ?_
    · intro h16 hx25
      rintro _ rfl
      refine Needs_nil ?_
      refine Stp_yld (Y_ldbox (us := [.int .u8 (fT (fcheck k p m tg z) k), str (fN (fcheck k p m tg z) p), str (fP (fcheck k p m tg z) p), str (fL (fcheck k p m tg z) tg), .int .i64 (fM (fcheck k p m tg z) m), .int .i64 (fZ (fcheck k p m tg z) z)]) Tryd.underlying58 rfl (show _ = some 6 by kernel_rfl) rfl (hk18.ext hx25) rfl) rfl ?_
      exact rfl
    refine LP_op 5 (fun _ vv => .bool (decide ((fT (fcheck k p m tg z) k) = (fT (fcheck k p m tg z) k) ∧ (fN (fcheck k p m tg z) p) = (fN (fcheck k p m tg z) p) ∧ (fP (fcheck k p m tg z) p) = (fP (fcheck k p m tg z) p) ∧ (fL (fcheck k p m tg z) tg) = (fL (fcheck k p m tg z) tg) ∧ (fM (fcheck k p m tg z) m) = (fM (fcheck k p m tg z) m) ∧ (fZ (fcheck k p m tg z) z) = (fZ (fcheck k p m tg z) z))) = vv) [(1, 26), (3, 28), (4, 29)] rfl rfl (by kernel_rfl) (fun _ _ _ _ p => p) ?_ ?_
    · intro h17 hx26
      rintro _ rfl
      rintro _ rfl
      rintro _ rfl
      refine Needs_nil ?_
      refine Stp_yld (Y_steql (xs := [.int .u8 ((fT (fcheck k p m tg z) k)), str (fN (fcheck k p m tg z) p), str (fP (fcheck k p m tg z) p), str (fL (fcheck k p m tg z) tg), .int .i64 ((fM (fcheck k p m tg z) m)), .int .i64 ((fZ (fcheck k p m tg z) z))]) (ys := [.int .u8 (fT (fcheck k p m tg z) k), str (fN (fcheck k p m tg z) p), str (fP (fcheck k p m tg z) p), str (fL (fcheck k p m tg z) tg), .int .i64 (fM (fcheck k p m tg z) m), .int .i64 (fZ (fcheck k p m tg z) z)]) (r := decide ((fT (fcheck k p m tg z) k) = (fT (fcheck k p m tg z) k) ∧ (fN (fcheck k p m tg z) p) = (fN (fcheck k p m tg z) p) ∧ (fP (fcheck k p m tg z) p) = (fP (fcheck k p m tg z) p) ∧ (fL (fcheck k p m tg z) tg) = (fL (fcheck k p m tg z) tg) ∧ (fM (fcheck k p m tg z) m) = (fM (fcheck k p m tg z) m) ∧ (fZ (fcheck k p m tg z) z) = (fZ (fcheck k p m tg z) z))) (by kernel_rfl) (by kernel_rfl) (by kernel_rfl) rfl rfl (steq (ks := [.i .u8, .s, .s, .s, .i .i64, .i .i64]) (by kernel_rfl) (by simp [eqks, eqk]))) rfl ?_
      exact rfl
    refine LP_op 6 (fun _ vv => .bool (decide ((fT (fcheck k p m tg z) k) = (fT (fcheck k p m tg z) k) ∧ (fN (fcheck k p m tg z) p) = (fN (fcheck k p m tg z) p) ∧ (fP (fcheck k p m tg z) p) = (fP (fcheck k p m tg z) p) ∧ (fL (fcheck k p m tg z) tg) = (fL (fcheck k p m tg z) tg) ∧ (fM (fcheck k p m tg z) m) = (fM (fcheck k p m tg z) m) ∧ (fZ (fcheck k p m tg z) z) = (fZ (fcheck k p m tg z) z))) = vv) [(1, 26), (5, 30)] rfl rfl (by kernel_rfl) (fun _ _ _ _ p => p) ?_ ?_
    · intro h18 hx27
      rintro _ rfl
      rintro _ rfl
      refine Needs_nil ?_
      refine Stp_yld (Y_pick_t rfl rfl) rfl ?_
      exact rfl
    refine LP_op 7 (fun _ vv => .bool true = vv) [(6, 31)] rfl rfl (by kernel_rfl) (fun _ _ _ _ p => p) ?_ ?_
    · intro h19 hx28
      rintro _ rfl
      refine Needs_nil ?_
      refine Stp_yld (Y_move rfl) rfl ?_
      exact (congrArg Value.bool (decide_eq_true (by exact ⟨rfl, rfl, rfl, rfl, rfl, rfl⟩))).symm
    refine LP_op 8 (fun _ vv => s15 = vv) [(7, 32)] rfl rfl (by kernel_rfl) (fun _ _ _ _ p => p) ?_ ?_
    · intro h20 hx29
      rintro _ rfl
      refine Needs_nil ?_
      refine Stp_yld (Y_move rfl) rfl ?_
      exact rfl
    refine LP_op 9 (fun _ vv => s112 = vv) [(7, 32)] rfl rfl (by kernel_rfl) (fun _ _ _ _ p => p) ?_ ?_
    · intro h21 hx30
      rintro _ rfl
      refine Needs_nil ?_
      refine Stp_yld (Y_move rfl) rfl ?_
      exact rfl
    refine LP_op 10 (fun _ vv => .bool (decide ((fR (fcheck k p m tg z) p tg z) = (fR (fcheck k p m tg z) p tg z))) = vv) [(7, 32), (8, 33), (9, 34)] rfl rfl (by kernel_rfl) (fun _ _ _ _ p => p) ?_ ?_
    · intro h22 hx31
      rintro _ rfl
      rintro _ rfl
      rintro _ rfl
      refine Needs_nil ?_
      refine Stp_call (E_call (by kernel_rfl) rfl) (slices_EqualR _ s15 (fR (fcheck k p m tg z) p tg z) (hr16.rows.ext (((((hn8.ext.then' hp10.only (by simp) (Nat.le_refl _)).trans hx14).trans hn15.ext).then' hp17.only (by simp) (Nat.le_trans (Nat.le_trans hn8.ext.size hp10.only.size) hx14.size)).trans hx31)) s112 (fR (fcheck k p m tg z) p tg z) (hr113.rows.ext ((hn15.ext.then' hp17.only (by simp) (Nat.le_refl _)).trans hx31)) (by first | first | omega | (exact Nat.le_trans (fR_len _ _ _ _) (by decide)) | rfl | (simp <;> omega))) rfl ?_
      rintro _ h22 ⟨rfl, rfl⟩
      exact ⟨(Ext.refl _), rfl⟩
    refine LP_op 11 (fun _ vv => .bool (decide ((fR (fcheck k p m tg z) p tg z) = (fR (fcheck k p m tg z) p tg z))) = vv) [(7, 32), (10, 35)] rfl rfl (by kernel_rfl) (fun _ _ _ _ p => p) ?_ ?_
    · intro h23 hx32
      rintro _ rfl
      rintro _ rfl
      refine Needs_nil ?_
      refine Stp_yld (Y_pick_t rfl rfl) rfl ?_
      exact rfl
    refine LP_op 12 (fun _ vv => .bool true = vv) [(11, 36)] rfl rfl (by kernel_rfl) (fun _ _ _ _ p => p) ?_ ?_
    · intro h24 hx33
      rintro _ rfl
      refine Needs_nil ?_
      refine Stp_yld (Y_move rfl) rfl ?_
      exact (congrArg Value.bool (decide_eq_true (by rfl))).symm
    refine LP_op 13 (fun _ vv => .int .i64 (fcheck k p m tg z) = vv) [(12, 37)] rfl rfl (by kernel_rfl) (fun _ _ _ _ p => p) ?_ ?_
    · intro h25 hx34
      rintro _ rfl
      refine Needs_nil ?_
      refine Stp_yld (Y_move rfl) rfl ?_
      exact rfl
    refine LP_op 14 (fun _ vv => .int .i64 (fcheck k p m tg z) = vv) [(12, 37)] rfl rfl (by kernel_rfl) (fun _ _ _ _ p => p) ?_ ?_
    · intro h26 hx35
      rintro _ rfl
      refine Needs_nil ?_
      refine Stp_yld (Y_move rfl) rfl ?_
      exact rfl
    refine LP_op 15 (fun _ vv => .bool (decide ((fcheck k p m tg z) = (fcheck k p m tg z))) = vv) [(12, 37), (13, 38), (14, 39)] rfl rfl (by kernel_rfl) (fun _ _ _ _ p => p) ?_ ?_
    · intro h27 hx36
      rintro _ rfl
      rintro _ rfl
      rintro _ rfl
      refine Needs_nil ?_
      refine Stp_yld (Y_eql rfl rfl) rfl ?_
      exact rfl
    refine LP_op 16 (fun _ vv => .bool (decide ((fcheck k p m tg z) = (fcheck k p m tg z))) = vv) [(15, 40), (12, 37)] rfl rfl (by kernel_rfl) (fun _ _ _ _ p => p) ?_ ?_
    · intro h28 hx37
      rintro _ rfl
      rintro _ rfl
      refine Needs_nil ?_
      refine Stp_yld (Y_pick_t rfl rfl) rfl ?_
      exact rfl
    refine LP_op 17 (fun _ vv => .bool true = vv) [(16, 41)] rfl rfl (by kernel_rfl) (fun _ _ _ _ p => p) ?_ ?_
    · intro h29 hx38
      rintro _ rfl
      refine Needs_nil ?_
      refine Stp_yld (Y_move rfl) rfl ?_
      exact (congrArg Value.bool (decide_eq_true (by rfl))).symm
    refine LP_op 18 (fun _ vv => .agg #[.int .i64 (k), str p, .int .i64 (m), str tg, .int .i64 (z)] = vv) [(17, 42)] rfl rfl (by kernel_rfl) (fun _ _ _ _ p => p) ?_ ?_
    · intro h30 hx39
      rintro _ rfl
      refine Needs_nil ?_
      refine Stp_yld (Y_ldbox (us := [.int .i64 (k), str p, .int .i64 (m), str tg, .int .i64 (z)]) Tryd.underlying46 rfl (show _ = some 5 by kernel_rfl) rfl (hk2.ext (((((((hx3.trans hx7).trans hn8.ext).then' hp10.only (by simp) (Nat.le_trans hx3.size hx7.size)).trans hx14).trans hn15.ext).then' hp17.only (by simp) (Nat.le_trans (Nat.le_trans (Nat.le_trans (Nat.le_trans hx3.size hx7.size) hn8.ext.size) hp10.only.size) hx14.size)).trans hx39)) rfl) rfl ?_
      exact rfl
    refine LP_op 19 (fun _ vv => .int .i64 (fcheck k p m tg z) = vv) [(17, 42), (18, 43)] rfl rfl (by kernel_rfl) (fun _ _ _ _ p => p) ?_ ?_
    · intro h31 hx40
      rintro _ rfl
      rintro _ rfl
      refine Needs_nil ?_
      refine Stp_call (E_call (by kernel_rfl) rfl) (fit_Check _ (hK.ext ((((((((hn1.ext.trans hx3).trans hx7).trans hn8.ext).then' hp10.only (by simp) (Nat.le_trans (Nat.le_trans hn1.ext.size hx3.size) hx7.size)).trans hx14).trans hn15.ext).then' hp17.only (by simp) (Nat.le_trans (Nat.le_trans (Nat.le_trans (Nat.le_trans (Nat.le_trans hn1.ext.size hx3.size) hx7.size) hn8.ext.size) hp10.only.size) hx14.size)).trans hx40)) (hE.ext ((((((((hn1.ext.trans hx3).trans hx7).trans hn8.ext).then' hp10.only (by simp) (Nat.le_trans (Nat.le_trans hn1.ext.size hx3.size) hx7.size)).trans hx14).trans hn15.ext).then' hp17.only (by simp) (Nat.le_trans (Nat.le_trans (Nat.le_trans (Nat.le_trans (Nat.le_trans hn1.ext.size hx3.size) hx7.size) hn8.ext.size) hp10.only.size) hx14.size)).trans hx40)) k p m tg z (by first | first | omega | (exact Nat.le_trans (fR_len _ _ _ _) (by decide)) | rfl | (simp <;> omega)) (by first | first | omega | (exact Nat.le_trans (fR_len _ _ _ _) (by decide)) | rfl | (simp <;> omega))) rfl ?_
      rintro _ h32 ⟨rfl, hx41⟩
      exact ⟨hx41, rfl⟩
    refine LP_op 20 (fun _ vv => .int .i64 (fcheck k p m tg z) = vv) [(17, 42)] rfl rfl (by kernel_rfl) (fun _ _ _ _ p => p) ?_ ?_
    · intro h33 hx42
      rintro _ rfl
      refine Needs_nil ?_
      refine Stp_yld (Y_move rfl) rfl ?_
      exact rfl
    refine LP_op 21 (fun _ vv => .bool (decide ((fcheck k p m tg z) = (fcheck k p m tg z))) = vv) [(17, 42), (19, 44), (20, 45)] rfl rfl (by kernel_rfl) (fun _ _ _ _ p => p) ?_ ?_
    · intro h34 hx43
      rintro _ rfl
      rintro _ rfl
      rintro _ rfl
      refine Needs_nil ?_
      refine Stp_yld (Y_eql rfl rfl) rfl ?_
      exact rfl
    refine LP_op 22 (fun _ vv => .bool (decide ((fcheck k p m tg z) = (fcheck k p m tg z))) = vv) [(17, 42), (21, 46)] rfl rfl (by kernel_rfl) (fun _ _ _ _ p => p) ?_ ?_
    · intro h35 hx44
      rintro _ rfl
      rintro _ rfl
      refine Needs_nil ?_
      refine Stp_yld (Y_pick_t rfl rfl) rfl ?_
      exact rfl
    refine LP_op 23 (fun _ vv => .bool (decide ((fcheck k p m tg z) = (fcheck k p m tg z))) = vv) [(22, 47)] rfl rfl (by kernel_rfl) (fun _ _ _ _ p => p) ?_ ?_
    · intro h36 hx45
      rintro _ rfl
      refine Needs_nil ?_
      refine Stp_yld (Y_assign rfl) rfl ?_
      exact rfl
    refine LP_end [(23, 2)] rfl (by kernel_rfl) rfl ?_
    intro h37 hx46
    rintro _ rfl
    refine Needs_nil ?_
    refine X_then ?_
    refine W_sub _ (.cons (i := 2) rfl (.nil _)) ?_
    refine W_ret ?_
    refine X_ret1 rfl rfl ?_
    exact ⟨by simp, ((((((((hn1.ext.trans hx3).trans hx7).trans hn8.ext).then' hp10.only (by simp) (Nat.le_trans (Nat.le_trans hn1.ext.size hx3.size) hx7.size)).trans hx14).trans hn15.ext).then' hp17.only (by simp) (Nat.le_trans (Nat.le_trans (Nat.le_trans (Nat.le_trans (Nat.le_trans hn1.ext.size hx3.size) hx7.size) hn8.ext.size) hp10.only.size) hx14.size)).trans hx46)⟩

theorem f8_check (z : Int) : fcheck 1 [102] 0 [] z = if z < 0 ∨ 1099511627776 < z then 3 else 0 := by
  have h1 : pcheck [102] = 0 := by decide +kernel
  have h2 : ftarget 1 [] = 0 := by decide +kernel
  unfold fcheck
  rw [if_neg (by omega), if_neg (by rw [h1]; simp), if_neg (by omega), if_neg (by rw [h2]; simp)]
  unfold fsize
  by_cases h : z < 0 ∨ 1099511627776 < z
  · rw [if_pos ⟨rfl, h⟩, if_pos h]
  · rw [if_neg (fun e => h e.2), if_neg h, if_neg (fun e => e.1 rfl)]
theorem f8_name : snam [102] = [102] ∧ sok [102] = true := by decide +kernel

set_option maxRecDepth 100000 in
theorem fitSizeLimits (h : Heap) (hK : GlbK h) (hN : GlbN h) (hE : GlbE h) (hT : GlbT h) (z : Int) (hz : -9223372036854775808 ≤ z ∧ z ≤ 9223372036854775807) : Cal Tryd.prog 8 #[.int .i64 (z)] h (fun v h' => v = .bool true ∧ Ext h h') := by
  refine Cal_enter (args := [.int .i64 (z)]) Tryd.func8 rfl rfl rfl (fun σ => ?_)
  refine W_seq ?_
  refine W_region ?_
  refine L_yld (Y_assign rfl) rfl rfl rfl ?_
  refine L_nil ?_
  refine X_then ?_
  refine W_seq ?_
  refine W_region ?_
  refine L_yld (Y_move rfl) rfl rfl rfl ?_
  refine L_yld (Y_build (v := .agg #[.int .i64 1, str [102], .int .i64 0, str [], .int .i64 (z)]) (pv := [(0, .int .i64 1), (1, str [102]), (4, .int .i64 (z))]) (evp (is := [0, 1, 4]) (os := [.const (.int .i64 1), .const (str [102]), .tmp 7]) (vs := [.int .i64 1, str [102], .int .i64 (z)]) rfl rfl) (fun _ => by kernel_rfl)) rfl rfl rfl ?_
  refine L_call (E_call (by kernel_rfl) rfl) (fit_Plan _ hK hN hE hT (1 : Int) [102] (0 : Int) [] z (by first | first | omega | (rw [hrc]; simp; done) | rfl | (simp <;> omega)) (by first | first | omega | (rw [hrc]; simp; done) | rfl | (simp <;> omega)) (by first | first | omega | (rw [hrc]; simp; done) | rfl | (simp <;> omega))) rfl rfl rfl ?_
  rintro _ h1 ⟨s11, rfl, hr12, hx3⟩
  refine L_yld (Y_move rfl) rfl rfl rfl ?_
  refine L_yld (Y_extract (v := .agg #[.int .u8 (fT (fcheck (1 : Int) [102] (0 : Int) [] z) (1 : Int)), str (fN (fcheck (1 : Int) [102] (0 : Int) [] z) [102]), str (fP (fcheck (1 : Int) [102] (0 : Int) [] z) [102]), str (fL (fcheck (1 : Int) [102] (0 : Int) [] z) []), .int .i64 (fM (fcheck (1 : Int) [102] (0 : Int) [] z) (0 : Int)), .int .i64 (fZ (fcheck (1 : Int) [102] (0 : Int) [] z) z)]) rfl rfl) rfl rfl rfl ?_
  refine L_yld (Y_extract (v := s11) rfl rfl) rfl rfl rfl ?_
  refine L_yld (Y_extract (v := .int .i64 (fcheck (1 : Int) [102] (0 : Int) [] z)) rfl rfl) rfl rfl rfl ?_
  refine L_mks (M_alloc (u := .agg #[.int .u8 0, str [], str [], str [], .int .i64 0, .int .i64 0]) (by kernel_rfl)) rfl rfl rfl ?_
  rintro _ h2 ⟨rfl, hn4⟩
  have hk5 : Blk h2 h1.size [.int .u8 0, str [], str [], str [], .int .i64 0, .int .i64 0] := hn4.blk
  refine L_dos (D_store (us := [.int .u8 (fT (fcheck (1 : Int) [102] (0 : Int) [] z) (1 : Int)), str (fN (fcheck (1 : Int) [102] (0 : Int) [] z) [102]), str (fP (fcheck (1 : Int) [102] (0 : Int) [] z) [102]), str (fL (fcheck (1 : Int) [102] (0 : Int) [] z) []), .int .i64 (fM (fcheck (1 : Int) [102] (0 : Int) [] z) (0 : Int)), .int .i64 (fZ (fcheck (1 : Int) [102] (0 : Int) [] z) z)]) (show _ = some 6 by kernel_rfl) rfl rfl rfl (by simp [Value.oneCell']) hk5 (by simp)) rfl rfl ?_
  rintro h3 hp6
  have hk7 : Blk h3 h1.size [.int .u8 (fT (fcheck (1 : Int) [102] (0 : Int) [] z) (1 : Int)), str (fN (fcheck (1 : Int) [102] (0 : Int) [] z) [102]), str (fP (fcheck (1 : Int) [102] (0 : Int) [] z) [102]), str (fL (fcheck (1 : Int) [102] (0 : Int) [] z) []), .int .i64 (fM (fcheck (1 : Int) [102] (0 : Int) [] z) (0 : Int)), .int .i64 (fZ (fcheck (1 : Int) [102] (0 : Int) [] z) z)] := hp6.blk
  refine L_yld (Y_assign rfl) rfl rfl rfl ?_
  refine L_yld (Y_assign rfl) rfl rfl rfl ?_
  refine L_nil ?_
  refine X_then ?_
  refine W_sub _ (.cons (i := 5) rfl (.cons (i := 4) rfl (.cons (i := 3) rfl (.cons (i := 2) rfl (.cons (i := 0) rfl (.nil _)))))) ?_
  refine W_seq ?_
  refine W_block ?_
  refine W_cut (S := Unit) (fun _ => [(13, .bool (decide ((z < 0) ∨ (1099511627776 < z)))), (5, .int .i64 (fcheck (1 : Int) [102] (0 : Int) [] z)), (4, s11), (3, .pointer (some ⟨h1.size, 0, none⟩)), (2, .bool false), (0, .int .i64 (z))]) (fun _ h' => h' = h3) ?_ ?_
  · refine W_region ?_
    refine L_yld (Y_move rfl) rfl rfl rfl ?_
    refine L_yld (Y_lss rfl rfl) rfl rfl rfl ?_
    refine L_yld (Y_move rfl) rfl rfl rfl ?_
    refine L_splitd (d := 16) rfl (fun c8 => ?_) (fun c8 => ?_)
    · refine L_skip rfl rfl rfl ?_
      refine L_skip rfl rfl rfl ?_
      refine L_yld (Y_pick_t rfl rfl) rfl rfl rfl ?_
      refine L_yld (Y_assign rfl) rfl rfl rfl ?_
      refine L_nil ?_
      exact X_cut () (.cons (i := 13) (lkb rfl (by simp only [eq_true c8, true_and, and_true, false_and, and_false, true_or, or_true, false_or, or_false, not_true_eq_false, not_false_eq_true, decide_true, decide_false, Bool.true_eq_false, Bool.false_eq_true, eq_self, Bool.decide_eq_true])) (.cons (i := 5) rfl (.cons (i := 4) rfl (.cons (i := 3) rfl (.cons (i := 2) rfl (.cons (i := 0) rfl (.nil _))))))) rfl
    · refine L_yld (Y_move rfl) rfl rfl rfl ?_
      refine L_yld (Y_gtr rfl rfl) rfl rfl rfl ?_
      refine L_yld (Y_pick_f rfl rfl) rfl rfl rfl ?_
      refine L_yld (Y_assign rfl) rfl rfl rfl ?_
      refine L_nil ?_
      exact X_cut () (.cons (i := 13) (lkb rfl (by simp only [eq_false c8, true_and, and_true, false_and, and_false, true_or, or_true, false_or, or_false, not_true_eq_false, not_false_eq_true, decide_true, decide_false, Bool.true_eq_false, Bool.false_eq_true, eq_self, Bool.decide_eq_true])) (.cons (i := 5) rfl (.cons (i := 4) rfl (.cons (i := 3) rfl (.cons (i := 2) rfl (.cons (i := 0) rfl (.nil _))))))) rfl
  rintro _ h3 rfl
  show W _ _ _ _ _ [(13, .bool (decide ((z < 0) ∨ (1099511627776 < z)))), (5, .int .i64 (fcheck (1 : Int) [102] (0 : Int) [] z)), (4, s11), (3, .pointer (some ⟨h1.size, 0, none⟩)), (2, .bool false), (0, .int .i64 (z))] _
  refine W_splitd rfl (fun b => ?_) (fun b => ?_)
  · refine W_seq ?_
    refine W_region ?_
    refine L_call (E_call (by kernel_rfl) rfl) (law10_alive _ (hK.ext ((hx3.trans hn4.ext).then' hp6.only (by simp) hx3.size)) (hN.ext ((hx3.trans hn4.ext).then' hp6.only (by simp) hx3.size)) (hE.ext ((hx3.trans hn4.ext).then' hp6.only (by simp) hx3.size)) (hT.ext ((hx3.trans hn4.ext).then' hp6.only (by simp) hx3.size))) rfl rfl rfl ?_
    rintro _ h4 ⟨rfl, hx9⟩
    refine L_yld (Y_move rfl) rfl rfl rfl ?_
    refine L_yld (Y_move rfl) rfl rfl rfl ?_
    refine L_yld (Y_eql rfl rfl) rfl rfl rfl ?_
    refine L_yld (Y_pick_t rfl rfl) rfl rfl rfl ?_
    refine L_yld (Y_assign rfl) rfl rfl rfl ?_
    refine L_nil ?_
    refine X_then ?_
    refine W_sub _ (.cons (i := 2) rfl (.cons (i := 5) rfl (.cons (i := 4) rfl (.cons (i := 3) rfl (.cons (i := 0) rfl (.nil _)))))) ?_
    refine W_ret ?_
    refine X_block_ret ?_
    refine X_then_ret ?_
    refine X_ret1 rfl rfl ?_
    exact ⟨congrArg Value.bool (decide_eq_true (by rw [f8_check, if_pos b])), (((hx3.trans hn4.ext).then' hp6.only (by simp) hx3.size).trans hx9)⟩
  · refine W_seq ?_
    refine W_region ?_
    refine L_yld (Y_move rfl) rfl rfl rfl ?_
    refine L_yld (Y_leq rfl rfl) rfl rfl rfl ?_
    refine L_yld (Y_assign rfl) rfl rfl rfl ?_
    refine L_nil ?_
    refine X_then ?_
    refine W_sub _ (.cons (i := 25) rfl (.cons (i := 5) rfl (.cons (i := 4) rfl (.cons (i := 3) rfl (.cons (i := 2) rfl (.cons (i := 0) rfl (.nil _))))))) ?_
    refine W_splitd rfl (fun c => ?_) (fun c => ?_)
    · refine W_seq ?_
      refine W_region ?_
      refine L_call (E_call (by kernel_rfl) rfl) (law10_alive _ (hK.ext ((hx3.trans hn4.ext).then' hp6.only (by simp) hx3.size)) (hN.ext ((hx3.trans hn4.ext).then' hp6.only (by simp) hx3.size)) (hE.ext ((hx3.trans hn4.ext).then' hp6.only (by simp) hx3.size)) (hT.ext ((hx3.trans hn4.ext).then' hp6.only (by simp) hx3.size))) rfl rfl rfl ?_
      rintro _ h5 ⟨rfl, hx10⟩
      refine L_yld (Y_move rfl) rfl rfl rfl ?_
      refine L_yld (Y_move rfl) rfl rfl rfl ?_
      refine L_yld (Y_eql rfl rfl) rfl rfl rfl ?_
      refine L_yld (Y_pick_t rfl rfl) rfl rfl rfl ?_
      refine L_yld (Y_move rfl) rfl rfl rfl ?_
      refine L_known (d := 33) true rfl (by exact decide_eq_true (by rw [f8_check, if_neg b])) ?_
      refine L_yld (Y_fieldAddr (off := 5) (by kernel_rfl) rfl rfl) rfl rfl rfl ?_
      refine L_yld (Y_ldblk Tryd.underlying2 rfl rfl (hk7.ext hx10) rfl) rfl rfl rfl ?_
      refine L_yld (Y_move rfl) rfl rfl rfl ?_
      refine L_yld (Y_eql rfl rfl) rfl rfl rfl ?_
      refine L_yld (Y_pick_t rfl rfl) rfl rfl rfl ?_
      refine L_yld (Y_move rfl) rfl rfl rfl ?_
      refine L_known (d := 39) true rfl (by exact decide_eq_true (by rw [f8_check, if_neg b, fZ, if_pos rfl, if_neg (by omega)])) ?_
      refine L_yld (Y_move rfl) rfl rfl rfl ?_
      refine L_yld (Y_lenr Tryd.underlying22 rfl (hr12.rows.ext ((hn4.ext.then' hp6.only (by simp) (Nat.le_refl _)).trans hx10))) rfl rfl rfl ?_
      refine L_yld (Y_eql rfl rfl) rfl rfl rfl ?_
      refine L_yld (Y_pick_t rfl rfl) rfl rfl rfl ?_
      refine L_yld (Y_assign rfl) rfl rfl rfl ?_
      refine L_nil ?_
      refine X_then ?_
      refine W_sub _ (.cons (i := 2) rfl (.cons (i := 5) rfl (.cons (i := 4) rfl (.cons (i := 3) rfl (.cons (i := 0) rfl (.nil _)))))) ?_
      refine W_ret ?_
      refine X_block_ret ?_
      refine X_then_ret ?_
      refine X_ret1 rfl rfl ?_
      exact ⟨congrArg Value.bool (decide_eq_true (by rw [f8_check, if_neg b, fR, if_pos rfl]; simp [frecs, f8_name.2]; omega)), (((hx3.trans hn4.ext).then' hp6.only (by simp) hx3.size).trans hx10)⟩
    · refine W_skip ?_
      refine X_block ?_
      refine X_then ?_
      refine W_sub _ (.cons (i := 5) rfl (.cons (i := 4) rfl (.cons (i := 3) rfl (.cons (i := 2) rfl (.cons (i := 0) rfl (.nil _)))))) ?_
      have hrc : fR (fcheck 1 [102] 0 [] z) [102] [] z = [⟨[115, 105, 122, 101], Lib.decDigits z.toNat⟩] := by rw [f8_check, if_neg b, fR, if_pos rfl]; simp [frecs, f8_name.2]; omega
      refine W_seq ?_
      refine W_pers [(5, .int .i64 (fcheck (1 : Int) [102] (0 : Int) [] z)), (4, s11), (3, .pointer (some ⟨h1.size, 0, none⟩)), (0, .int .i64 (z))] (.cons (i := 5) rfl (.cons (i := 4) rfl (.cons (i := 3) rfl (.cons (i := 0) rfl (.nil _))))) (by kernel_rfl) ?_
      refine LP_op 0 (fun _ vv => .bool true = vv) [] rfl rfl (by kernel_rfl) (fun _ _ _ _ p => p) ?_ ?_
      · intro h6 hx11
        refine Needs_nil ?_
        refine Stp_call (E_call (by kernel_rfl) rfl) (law10_alive _ (hK.ext (((hx3.trans hn4.ext).then' hp6.only (by simp) hx3.size).trans hx11)) (hN.ext (((hx3.trans hn4.ext).then' hp6.only (by simp) hx3.size).trans hx11)) (hE.ext (((hx3.trans hn4.ext).then' hp6.only (by simp) hx3.size).trans hx11)) (hT.ext (((hx3.trans hn4.ext).then' hp6.only (by simp) hx3.size).trans hx11))) rfl ?_
        rintro _ h7 ⟨rfl, hx12⟩
        exact ⟨hx12, rfl⟩
      refine LP_op 1 (fun _ vv => .bool true = vv) [(0, 44)] rfl rfl (by kernel_rfl) (fun _ _ _ _ p => p) ?_ ?_
      · intro h8 hx13
        rintro _ rfl
        refine Needs_nil ?_
        refine Stp_yld (Y_move rfl) rfl ?_
        exact rfl
      refine LP_op 2 (fun _ vv => .int .i64 (fcheck (1 : Int) [102] (0 : Int) [] z) = vv) [(1, 45)] rfl rfl (by kernel_rfl) (fun _ _ _ _ p => p) ?_ ?_
      · intro h9 hx14
        rintro _ rfl
        refine Needs_nil ?_
        refine Stp_yld (Y_move rfl) rfl ?_
        exact rfl
      refine LP_op 3 (fun _ vv => .bool (decide ((fcheck (1 : Int) [102] (0 : Int) [] z) = 0)) = vv) [(1, 45), (2, 46)] rfl rfl (by kernel_rfl) (fun _ _ _ _ p => p) ?_ ?_
      · intro h10 hx15
        rintro _ rfl
        rintro _ rfl
        refine Needs_nil ?_
        refine Stp_yld (Y_eql rfl rfl) rfl ?_
        exact rfl
      refine LP_op 4 (fun _ vv => .bool (decide ((fcheck (1 : Int) [102] (0 : Int) [] z) = 0)) = vv) [(1, 45), (3, 47)] rfl rfl (by kernel_rfl) (fun _ _ _ _ p => p) ?_ ?_
      · intro h11 hx16
        rintro _ rfl
        rintro _ rfl
        refine Needs_nil ?_
        refine Stp_yld (Y_pick_t rfl rfl) rfl ?_
        exact rfl
      refine LP_op 5 (fun _ vv => .bool true = vv) [(4, 48)] rfl rfl (by kernel_rfl) (fun _ _ _ _ p => p) ?_ ?_
      · intro h12 hx17
        rintro _ rfl
        refine Needs_nil ?_
        refine Stp_yld (Y_move rfl) rfl ?_
        exact (congrArg Value.bool (decide_eq_true (by rw [f8_check, if_neg b]))).symm
      refine LP_op 6 (fun _ vv => .pointer (some ⟨h1.size, 0 + 5, none⟩) = vv) [(5, 49)] rfl rfl (by kernel_rfl) (fun _ _ _ _ p => p) ?_ ?_
      · intro h13 hx18
        rintro _ rfl
        refine Needs_nil ?_
        refine Stp_yld (Y_fieldAddr (off := 5) (by kernel_rfl) rfl rfl) rfl ?_
        exact rfl
      refine LP_op 7 (fun _ vv => .int .i64 (fZ (fcheck (1 : Int) [102] (0 : Int) [] z) z) = vv) [(5, 49), (6, 50)] rfl rfl (by kernel_rfl) (fun _ _ _ _ p => p) ?_ ?_
      · intro h14 hx19
        rintro _ rfl
        rintro _ rfl
        refine Needs_nil ?_
        refine Stp_yld (Y_ldblk Tryd.underlying2 rfl rfl (hk7.ext hx19) rfl) rfl ?_
        exact rfl
      refine LP_op 8 (fun _ vv => .bool (decide ((fZ (fcheck (1 : Int) [102] (0 : Int) [] z) z) = 0)) = vv) [(5, 49), (7, 51)] rfl rfl (by kernel_rfl) (fun _ _ _ _ p => p) ?_ ?_
      · intro h15 hx20
        rintro _ rfl
        rintro _ rfl
        refine Needs_nil ?_
        refine Stp_yld (Y_eql rfl rfl) rfl ?_
        exact rfl
      refine LP_op 9 (fun _ vv => .bool (decide ((fZ (fcheck (1 : Int) [102] (0 : Int) [] z) z) = 0)) = vv) [(5, 49), (8, 52)] rfl rfl (by kernel_rfl) (fun _ _ _ _ p => p) ?_ ?_
      · intro h16 hx21
        rintro _ rfl
        rintro _ rfl
        refine Needs_nil ?_
        refine Stp_yld (Y_pick_t rfl rfl) rfl ?_
        exact rfl
      refine LP_op 10 (fun _ vv => .bool true = vv) [(9, 53)] rfl rfl (by kernel_rfl) (fun _ _ _ _ p => p) ?_ ?_
      · intro h17 hx22
        rintro _ rfl
        refine Needs_nil ?_
        refine Stp_yld (Y_move rfl) rfl ?_
        exact (congrArg Value.bool (decide_eq_true (by rw [f8_check, if_neg b, fZ, if_pos rfl, if_pos (by omega)]))).symm
      refine LP_op 11 (fun _ vv => s11 = vv) [(10, 54)] rfl rfl (by kernel_rfl) (fun _ _ _ _ p => p) ?_ ?_
      · intro h18 hx23
        rintro _ rfl
        refine Needs_nil ?_
        refine Stp_yld (Y_move rfl) rfl ?_
        exact rfl
      refine LP_op 12 (fun _ vv => .int .i64 (((fR (fcheck (1 : Int) [102] (0 : Int) [] z) [102] [] z).length : Int)) = vv) [(10, 54), (11, 55)] rfl rfl (by kernel_rfl) (fun _ _ _ _ p => p) ?_ ?_
      · intro h19 hx24
        rintro _ rfl
        rintro _ rfl
        refine Needs_nil ?_
        refine Stp_yld (Y_lenr Tryd.underlying22 rfl (hr12.rows.ext ((hn4.ext.then' hp6.only (by simp) (Nat.le_refl _)).trans hx24))) rfl ?_
        exact rfl
      refine LP_op 13 (fun _ vv => .bool (decide (((fR (fcheck (1 : Int) [102] (0 : Int) [] z) [102] [] z).length : Int) = 1)) = vv) [(12, 56), (10, 54)] rfl rfl (by kernel_rfl) (fun _ _ _ _ p => p) ?_ ?_
      · intro h20 hx25
        rintro _ rfl
        rintro _ rfl
        refine Needs_nil ?_
        refine Stp_yld (Y_eql rfl rfl) rfl ?_
        exact rfl
      refine LP_op 14 (fun _ vv => .bool (decide (((fR (fcheck (1 : Int) [102] (0 : Int) [] z) [102] [] z).length : Int) = 1)) = vv) [(13, 57), (10, 54)] rfl rfl (by kernel_rfl) (fun _ _ _ _ p => p) ?_ ?_
      · intro h21 hx26
        rintro _ rfl
        rintro _ rfl
        refine Needs_nil ?_
        refine Stp_yld (Y_pick_t rfl rfl) rfl ?_
        exact rfl
      refine LP_op 15 (fun _ vv => .bool true = vv) [(14, 58)] rfl rfl (by kernel_rfl) (fun _ _ _ _ p => p) ?_ ?_
      · intro h22 hx27
        rintro _ rfl
        refine Needs_nil ?_
        refine Stp_yld (Y_move rfl) rfl ?_
        exact (congrArg Value.bool (decide_eq_true (by rw [hrc]; rfl))).symm
      refine LP_op 16 (fun _ vv => s11 = vv) [(15, 59)] rfl rfl (by kernel_rfl) (fun _ _ _ _ p => p) ?_ ?_
      · intro h23 hx28
        rintro _ rfl
        refine Needs_nil ?_
        refine Stp_yld (Y_move rfl) rfl ?_
        exact rfl
      refine LP_op 17 (fun _ vv => .pointer (some (elemAddr s11 ((0 : Int).toNat * 2))) = vv) [(15, 59), (16, 60)] rfl rfl (by kernel_rfl) (fun _ _ _ _ p => p) ?_ ?_
      · intro h24 hx29
        rintro _ rfl
        rintro _ rfl
        refine Needs_nil ?_
        refine Stp_yld (Y_idxr Tryd.underlying22 (show _ = some 2 by kernel_rfl) rfl rfl rfl (hr12.rows.ext ((hn4.ext.then' hp6.only (by simp) (Nat.le_refl _)).trans hx29)) (by first | omega | (rw [hrc]; simp; done)) (by first | omega | (rw [hrc]; simp; done))) rfl ?_
        exact rfl
      refine LP_op 18 (fun _ vv => .pointer (some (elemAddr s11 ((0 : Int).toNat * 2 + 0))) = vv) [(15, 59), (17, 61)] rfl rfl (by kernel_rfl) (fun _ _ _ _ p => p) ?_ ?_
      · intro h25 hx30
        rintro _ rfl
        rintro _ rfl
        refine Needs_nil ?_
        refine Stp_yld (Y_fldr (k := 0) (off := 0) (by kernel_rfl) rfl (hr12.rows.ext ((hn4.ext.then' hp6.only (by simp) (Nat.le_refl _)).trans hx30)) (by first | omega | (rw [hrc]; simp; done))) rfl ?_
        exact rfl
      refine LP_op 19 (fun _ vv => str ((at_rec (fR (fcheck (1 : Int) [102] (0 : Int) [] z) [102] [] z) 0).key) = vv) [(15, 59), (18, 62)] rfl rfl (by kernel_rfl) (fun _ _ _ _ p => p) ?_ ?_
      · intro h26 hx31
        rintro _ rfl
        rintro _ rfl
        refine Needs_nil ?_
        refine Stp_yld (Y_ldr1 (off := 0) (k := 0) Tryd.underlying9 rfl rfl rfl (hr12.rows.ext ((hn4.ext.then' hp6.only (by simp) (Nat.le_refl _)).trans hx31)) (by first | omega | (rw [hrc]; simp; done)) rfl) rfl ?_
        exact rfl
      refine LP_op 20 (fun _ vv => .bool (decide (((at_rec (fR (fcheck (1 : Int) [102] (0 : Int) [] z) [102] [] z) 0).key) = [115, 105, 122, 101])) = vv) [(15, 59), (19, 63)] rfl rfl (by kernel_rfl) (fun _ _ _ _ p => p) ?_ ?_
      · intro h27 hx32
        rintro _ rfl
        rintro _ rfl
        refine Needs_nil ?_
        refine Stp_yld (Y_seql rfl rfl) rfl ?_
        exact rfl
      refine LP_op 21 (fun _ vv => .bool (decide (((at_rec (fR (fcheck (1 : Int) [102] (0 : Int) [] z) [102] [] z) 0).key) = [115, 105, 122, 101])) = vv) [(20, 64), (15, 59)] rfl rfl (by kernel_rfl) (fun _ _ _ _ p => p) ?_ ?_
      · intro h28 hx33
        rintro _ rfl
        rintro _ rfl
        refine Needs_nil ?_
        refine Stp_yld (Y_pick_t rfl rfl) rfl ?_
        exact rfl
      refine LP_op 22 (fun _ vv => .bool true = vv) [(21, 65)] rfl rfl (by kernel_rfl) (fun _ _ _ _ p => p) ?_ ?_
      · intro h29 hx34
        rintro _ rfl
        refine Needs_nil ?_
        refine Stp_yld (Y_move rfl) rfl ?_
        exact (congrArg Value.bool (decide_eq_true (by rw [hrc]; rfl))).symm
      refine LP_op 23 (fun _ vv => s11 = vv) [(22, 66)] rfl rfl (by kernel_rfl) (fun _ _ _ _ p => p) ?_ ?_
      · intro h30 hx35
        rintro _ rfl
        refine Needs_nil ?_
        refine Stp_yld (Y_move rfl) rfl ?_
        exact rfl
      refine LP_op 24 (fun _ vv => .pointer (some (elemAddr s11 ((0 : Int).toNat * 2))) = vv) [(22, 66), (23, 67)] rfl rfl (by kernel_rfl) (fun _ _ _ _ p => p) ?_ ?_
      · intro h31 hx36
        rintro _ rfl
        rintro _ rfl
        refine Needs_nil ?_
        refine Stp_yld (Y_idxr Tryd.underlying22 (show _ = some 2 by kernel_rfl) rfl rfl rfl (hr12.rows.ext ((hn4.ext.then' hp6.only (by simp) (Nat.le_refl _)).trans hx36)) (by first | omega | (rw [hrc]; simp; done)) (by first | omega | (rw [hrc]; simp; done))) rfl ?_
        exact rfl
      refine LP_op 25 (fun _ vv => .pointer (some (elemAddr s11 ((0 : Int).toNat * 2 + 1))) = vv) [(22, 66), (24, 68)] rfl rfl (by kernel_rfl) (fun _ _ _ _ p => p) ?_ ?_
      · intro h32 hx37
        rintro _ rfl
        rintro _ rfl
        refine Needs_nil ?_
        refine Stp_yld (Y_fldr (k := 0) (off := 1) (by kernel_rfl) rfl (hr12.rows.ext ((hn4.ext.then' hp6.only (by simp) (Nat.le_refl _)).trans hx37)) (by first | omega | (rw [hrc]; simp; done))) rfl ?_
        exact rfl
      refine LP_op 26 (fun _ vv => str ((at_rec (fR (fcheck (1 : Int) [102] (0 : Int) [] z) [102] [] z) 0).val) = vv) [(22, 66), (25, 69)] rfl rfl (by kernel_rfl) (fun _ _ _ _ p => p) ?_ ?_
      · intro h33 hx38
        rintro _ rfl
        rintro _ rfl
        refine Needs_nil ?_
        refine Stp_yld (Y_ldr1 (off := 1) (k := 0) Tryd.underlying9 rfl rfl rfl (hr12.rows.ext ((hn4.ext.then' hp6.only (by simp) (Nat.le_refl _)).trans hx38)) (by first | omega | (rw [hrc]; simp; done)) rfl) rfl ?_
        exact rfl
      refine LP_op 27 (fun _ vv => .int .i64 (z) = vv) [(22, 66)] rfl rfl (by kernel_rfl) (fun _ _ _ _ p => p) ?_ ?_
      · intro h34 hx39
        rintro _ rfl
        refine Needs_nil ?_
        refine Stp_yld (Y_move rfl) rfl ?_
        exact rfl
      refine LP_op 28 (fun _ vv => str (Lib.itoa z) = vv) [(22, 66), (27, 71)] rfl rfl (by kernel_rfl) (fun _ _ _ _ p => p) ?_ ?_
      · intro h35 hx40
        rintro _ rfl
        rintro _ rfl
        refine Needs_nil ?_
        refine Stp_call (E_call (by kernel_rfl) rfl) (strconv_FormatInt _ (hN.ext (((hx3.trans hn4.ext).then' hp6.only (by simp) hx3.size).trans hx40)) z (by first | first | omega | (rw [hrc]; simp; done) | rfl | (simp <;> omega))) rfl ?_
        rintro _ h36 ⟨rfl, hx41⟩
        exact ⟨hx41, rfl⟩
      refine LP_op 29 (fun _ vv => .bool (decide (((at_rec (fR (fcheck (1 : Int) [102] (0 : Int) [] z) [102] [] z) 0).val) = (Lib.itoa z))) = vv) [(28, 72), (22, 66), (26, 70)] rfl rfl (by kernel_rfl) (fun _ _ _ _ p => p) ?_ ?_
      · intro h37 hx42
        rintro _ rfl
        rintro _ rfl
        rintro _ rfl
        refine Needs_nil ?_
        refine Stp_yld (Y_seql rfl rfl) rfl ?_
        exact rfl
      refine LP_op 30 (fun _ vv => .bool (decide (((at_rec (fR (fcheck (1 : Int) [102] (0 : Int) [] z) [102] [] z) 0).val) = (Lib.itoa z))) = vv) [(29, 73), (22, 66)] rfl rfl (by kernel_rfl) (fun _ _ _ _ p => p) ?_ ?_
      · intro h38 hx43
        rintro _ rfl
        rintro _ rfl
        refine Needs_nil ?_
        refine Stp_yld (Y_pick_t rfl rfl) rfl ?_
        exact rfl
      refine LP_op 31 (fun _ vv => .bool (decide (((at_rec (fR (fcheck (1 : Int) [102] (0 : Int) [] z) [102] [] z) 0).val) = (Lib.itoa z))) = vv) [(30, 74)] rfl rfl (by kernel_rfl) (fun _ _ _ _ p => p) ?_ ?_
      · intro h39 hx44
        rintro _ rfl
        refine Needs_nil ?_
        refine Stp_yld (Y_assign rfl) rfl ?_
        exact rfl
      refine LP_end [(31, 2)] rfl (by kernel_rfl) rfl ?_
      intro h40 hx45
      rintro _ rfl
      refine Needs_nil ?_
      refine X_then ?_
      refine W_sub _ (.cons (i := 2) rfl (.nil _)) ?_
      refine W_ret ?_
      refine X_ret1 rfl rfl ?_
      exact ⟨congrArg Value.bool (decide_eq_true (by rw [hrc, itoa_pos (by omega)]; rfl)), (((hx3.trans hn4.ext).then' hp6.only (by simp) hx3.size).trans hx45)⟩

theorem f7_check (p : List UInt8) (m : Int) (hm : 0 ≤ m ∧ m ≤ 4095) : fcheck 0 p m [] 0 = pcheck p := by
  have h2 : ftarget 0 [] = 0 := by decide +kernel
  unfold fcheck
  rw [if_neg (by omega)]
  by_cases h : pcheck p = 0
  · rw [if_neg (by simpa using h), if_neg (by omega), if_neg (by rw [h2]; simp), h]; decide
  · rw [if_pos h]

set_option maxRecDepth 100000 in
theorem fitPathPlacement (h : Heap) (hK : GlbK h) (hN : GlbN h) (hE : GlbE h) (hT : GlbT h) (p : List UInt8) (m : Int) (hp : p.length ≤ 140737488355328) (hm : 0 ≤ m ∧ m ≤ 65535) : Cal Tryd.prog 7 #[str p, .int .u16 (m)] h (fun v h' => v = .bool true ∧ Ext h h') := by
  refine Cal_enter (args := [str p, .int .u16 (m)]) Tryd.func7 rfl rfl rfl (fun σ => ?_)
  refine W_seq ?_
  refine W_region ?_
  refine L_yld (Y_assign rfl) rfl rfl rfl ?_
  refine L_nil ?_
  refine X_then ?_
  refine W_seq ?_
  refine W_region ?_
  refine L_yld (Y_move rfl) rfl rfl rfl ?_
  refine L_yld (Y_move rfl) rfl rfl rfl ?_
  refine L_yld (Y_convs Tryd.underlying41 Tryd.underlying3 rfl (wrap_i64 (by first | omega | (rw [hrc]; simp; done)) (by first | omega | (rw [hrc]; simp; done)))) rfl rfl rfl ?_
  refine L_yld (Y_rem rfl rfl (by omega) (by omega)) rfl rfl rfl ?_
  refine L_yld (Y_build (v := .agg #[.int .i64 0, str p, .int .i64 (m % 4096), str [], .int .i64 0]) (pv := [(0, .int .i64 0), (1, str p), (2, .int .i64 (m % 4096))]) (evp (is := [0, 1, 2]) (os := [.const (.int .i64 0), .tmp 12, .tmp 15]) (vs := [.int .i64 0, str p, .int .i64 (m % 4096)]) rfl rfl) (fun _ => by kernel_rfl)) rfl rfl rfl ?_
  refine L_mks (M_alloc (u := .agg #[.int .i64 0, str [], .int .i64 0, str [], .int .i64 0]) (by kernel_rfl)) rfl rfl rfl ?_
  rintro _ h1 ⟨rfl, hn1⟩
  have hk2 : Blk h1 h.size [.int .i64 0, str [], .int .i64 0, str [], .int .i64 0] := hn1.blk
  refine L_dos (D_store (us := [.int .i64 0, str p, .int .i64 (m % 4096), str [], .int .i64 0]) (show _ = some 5 by kernel_rfl) rfl rfl rfl (by simp [Value.oneCell']) hk2 (by simp)) rfl rfl ?_
  rintro h2 hp3
  have hk4 : Blk h2 h.size [.int .i64 0, str p, .int .i64 (m % 4096), str [], .int .i64 0] := hp3.blk
  refine L_nil ?_
  refine X_then ?_
  refine W_sub _ (.cons (i := 5) rfl (.cons (i := 4) rfl (.cons (i := 0) rfl (.nil _)))) ?_
  refine W_seq ?_
  refine W_seq ?_
  refine W_region ?_
  refine L_yld (Y_move rfl) rfl rfl rfl ?_
  refine L_yld (Y_slen Tryd.underlying9 rfl) rfl rfl rfl ?_
  refine L_yld (Y_gtr rfl rfl) rfl rfl rfl ?_
  refine L_nil ?_
  refine X_then ?_
  refine W_sub _ (.cons (i := 19) rfl (.cons (i := 5) rfl (.cons (i := 4) rfl (.cons (i := 0) rfl (.nil _))))) ?_
  refine W_splitd rfl (fun g => ?_) (fun g => ?_)
  · refine W_seq ?_
    refine W_region ?_
    refine L_call (E_call (by kernel_rfl) rfl) (law10_alive _ (hK.ext (hn1.ext.then' hp3.only (by simp) (Nat.le_refl _))) (hN.ext (hn1.ext.then' hp3.only (by simp) (Nat.le_refl _))) (hE.ext (hn1.ext.then' hp3.only (by simp) (Nat.le_refl _))) (hT.ext (hn1.ext.then' hp3.only (by simp) (Nat.le_refl _)))) rfl rfl rfl ?_
    rintro _ h3 ⟨rfl, hx5⟩
    refine L_yld (Y_assign rfl) rfl rfl rfl ?_
    refine L_nil ?_
    refine X_then ?_
    refine W_sub _ (.cons (i := 4) rfl (.cons (i := 5) rfl (.cons (i := 0) rfl (.nil _)))) ?_
    refine W_ret ?_
    refine X_then_ret ?_
    refine X_ret1 rfl rfl ?_
    exact ⟨rfl, ((hn1.ext.then' hp3.only (by simp) (Nat.le_refl _)).trans hx5)⟩
  · refine W_skip ?_
    refine X_then ?_
    refine W_sub _ (.cons (i := 5) rfl (.cons (i := 4) rfl (.cons (i := 0) rfl (.nil _)))) ?_
    refine W_seq ?_
    refine W_region ?_
    refine L_yld (Y_ldbox (us := [.int .i64 0, str p, .int .i64 (m % 4096), str [], .int .i64 0]) Tryd.underlying46 rfl (show _ = some 5 by kernel_rfl) rfl hk4 rfl) rfl rfl rfl ?_
    refine L_call (E_call (by kernel_rfl) rfl) (fit_Plan _ (hK.ext (hn1.ext.then' hp3.only (by simp) (Nat.le_refl _))) (hN.ext (hn1.ext.then' hp3.only (by simp) (Nat.le_refl _))) (hE.ext (hn1.ext.then' hp3.only (by simp) (Nat.le_refl _))) (hT.ext (hn1.ext.then' hp3.only (by simp) (Nat.le_refl _))) (0 : Int) p (m % 4096) [] (0 : Int) (by first | first | omega | (rw [hrc]; simp; done) | rfl | (simp <;> omega)) (by first | first | omega | (rw [hrc]; simp; done) | rfl | (simp <;> omega)) (by first | first | omega | (rw [hrc]; simp; done) | rfl | (simp <;> omega))) rfl rfl rfl ?_
    rintro _ h4 ⟨s16, rfl, hr17, hx8⟩
    refine L_yld (Y_move rfl) rfl rfl rfl ?_
    refine L_yld (Y_extract (v := .agg #[.int .u8 (fT (fcheck (0 : Int) p (m % 4096) [] (0 : Int)) (0 : Int)), str (fN (fcheck (0 : Int) p (m % 4096) [] (0 : Int)) p), str (fP (fcheck (0 : Int) p (m % 4096) [] (0 : Int)) p), str (fL (fcheck (0 : Int) p (m % 4096) [] (0 : Int)) []), .int .i64 (fM (fcheck (0 : Int) p (m % 4096) [] (0 : Int)) (m % 4096)), .int .i64 (fZ (fcheck (0 : Int) p (m % 4096) [] (0 : Int)) (0 : Int))]) rfl rfl) rfl rfl rfl ?_
    refine L_yld (Y_extract (v := s16) rfl rfl) rfl rfl rfl ?_
    refine L_yld (Y_extract (v := .int .i64 (fcheck (0 : Int) p (m % 4096) [] (0 : Int))) rfl rfl) rfl rfl rfl ?_
    refine L_mks (M_alloc (u := .agg #[.int .u8 0, str [], str [], str [], .int .i64 0, .int .i64 0]) (by kernel_rfl)) rfl rfl rfl ?_
    rintro _ h5 ⟨rfl, hn9⟩
    have hk10 : Blk h5 h4.size [.int .u8 0, str [], str [], str [], .int .i64 0, .int .i64 0] := hn9.blk
    refine L_dos (D_store (us := [.int .u8 (fT (fcheck (0 : Int) p (m % 4096) [] (0 : Int)) (0 : Int)), str (fN (fcheck (0 : Int) p (m % 4096) [] (0 : Int)) p), str (fP (fcheck (0 : Int) p (m % 4096) [] (0 : Int)) p), str (fL (fcheck (0 : Int) p (m % 4096) [] (0 : Int)) []), .int .i64 (fM (fcheck (0 : Int) p (m % 4096) [] (0 : Int)) (m % 4096)), .int .i64 (fZ (fcheck (0 : Int) p (m % 4096) [] (0 : Int)) (0 : Int))]) (show _ = some 6 by kernel_rfl) rfl rfl rfl (by simp [Value.oneCell']) hk10 (by simp)) rfl rfl ?_
    rintro h6 hp11
    have hk12 : Blk h6 h4.size [.int .u8 (fT (fcheck (0 : Int) p (m % 4096) [] (0 : Int)) (0 : Int)), str (fN (fcheck (0 : Int) p (m % 4096) [] (0 : Int)) p), str (fP (fcheck (0 : Int) p (m % 4096) [] (0 : Int)) p), str (fL (fcheck (0 : Int) p (m % 4096) [] (0 : Int)) []), .int .i64 (fM (fcheck (0 : Int) p (m % 4096) [] (0 : Int)) (m % 4096)), .int .i64 (fZ (fcheck (0 : Int) p (m % 4096) [] (0 : Int)) (0 : Int))] := hp11.blk
    refine L_yld (Y_assign rfl) rfl rfl rfl ?_
    refine L_yld (Y_assign rfl) rfl rfl rfl ?_
    refine L_nil ?_
    refine X_then ?_
    refine W_sub _ (.cons (i := 8) rfl (.cons (i := 7) rfl (.cons (i := 6) rfl (.cons (i := 4) rfl (.cons (i := 0) rfl (.nil _)))))) ?_
    have hfc := f7_check p (m % 4096) (by omega)
    refine W_seq ?_
    refine W_seq ?_
    refine W_region ?_
    refine L_yld (Y_move rfl) rfl rfl rfl ?_
    refine L_yld (Y_neq rfl rfl) rfl rfl rfl ?_
    refine L_nil ?_
    refine X_then ?_
    refine W_sub _ (.cons (i := 28) rfl (.cons (i := 8) rfl (.cons (i := 7) rfl (.cons (i := 6) rfl (.cons (i := 4) rfl (.cons (i := 0) rfl (.nil _))))))) ?_
    refine W_splitd rfl (fun e => ?_) (fun e => ?_)
    · refine W_seq ?_
      refine W_region ?_
      refine L_call (E_call (by kernel_rfl) rfl) (law10_alive _ (hK.ext ((((hn1.ext.then' hp3.only (by simp) (Nat.le_refl _)).trans hx8).trans hn9.ext).then' hp11.only (by simp) (Nat.le_trans (Nat.le_trans hn1.ext.size hp3.only.size) hx8.size))) (hN.ext ((((hn1.ext.then' hp3.only (by simp) (Nat.le_refl _)).trans hx8).trans hn9.ext).then' hp11.only (by simp) (Nat.le_trans (Nat.le_trans hn1.ext.size hp3.only.size) hx8.size))) (hE.ext ((((hn1.ext.then' hp3.only (by simp) (Nat.le_refl _)).trans hx8).trans hn9.ext).then' hp11.only (by simp) (Nat.le_trans (Nat.le_trans hn1.ext.size hp3.only.size) hx8.size))) (hT.ext ((((hn1.ext.then' hp3.only (by simp) (Nat.le_refl _)).trans hx8).trans hn9.ext).then' hp11.only (by simp) (Nat.le_trans (Nat.le_trans hn1.ext.size hp3.only.size) hx8.size)))) rfl rfl rfl ?_
      rintro _ h7 ⟨rfl, hx13⟩
      refine L_yld (Y_move rfl) rfl rfl rfl ?_
      refine L_yld (Y_move rfl) rfl rfl rfl ?_
      refine L_yld (Y_move rfl) rfl rfl rfl ?_
      refine L_call (E_call (by kernel_rfl) rfl) (pathname_Check _ p (by first | first | omega | (rw [hrc]; simp; done) | rfl | (simp <;> omega))) rfl rfl rfl ?_
      rintro _ h8 ⟨rfl, hx14⟩
      refine L_yld (Y_eql rfl rfl) rfl rfl rfl ?_
      refine L_yld (Y_pick_t rfl rfl) rfl rfl rfl ?_
      refine L_yld (Y_assign rfl) rfl rfl rfl ?_
      refine L_nil ?_
      refine X_then ?_
      refine W_sub _ (.cons (i := 4) rfl (.cons (i := 7) rfl (.cons (i := 6) rfl (.cons (i := 0) rfl (.nil _))))) ?_
      refine W_ret ?_
      refine X_then_ret ?_
      refine X_ret1 rfl rfl ?_
      exact ⟨congrArg Value.bool (decide_eq_true hfc), ((((((hn1.ext.then' hp3.only (by simp) (Nat.le_refl _)).trans hx8).trans hn9.ext).then' hp11.only (by simp) (Nat.le_trans (Nat.le_trans hn1.ext.size hp3.only.size) hx8.size)).trans hx13).trans hx14)⟩
    · refine W_skip ?_
      refine X_then ?_
      refine W_sub _ (.cons (i := 7) rfl (.cons (i := 6) rfl (.cons (i := 4) rfl (.cons (i := 0) rfl (.nil _))))) ?_
      have e0 : fcheck 0 p (m % 4096) [] 0 = 0 := Classical.not_not.1 e
      refine W_seq ?_
      refine W_region ?_
      refine L_yld (Y_move rfl) rfl rfl rfl ?_
      refine L_call (E_call (by kernel_rfl) rfl) (pathname_Split _ p (by first | first | omega | (rw [hrc]; simp; done) | rfl | (simp <;> omega))) rfl rfl rfl ?_
      rintro _ h6 ⟨rfl, rfl⟩
      refine L_yld (Y_move rfl) rfl rfl rfl ?_
      refine L_yld (Y_extract (v := str (spre p)) rfl rfl) rfl rfl rfl ?_
      refine L_yld (Y_extract (v := str (snam p)) rfl rfl) rfl rfl rfl ?_
      refine L_yld (Y_extract (v := .bool (sok p)) rfl rfl) rfl rfl rfl ?_
      refine L_yld (Y_assign rfl) rfl rfl rfl ?_
      refine L_yld (Y_assign rfl) rfl rfl rfl ?_
      refine L_yld (Y_assign rfl) rfl rfl rfl ?_
      refine L_nil ?_
      refine X_then ?_
      refine W_sub _ (.cons (i := 11) rfl (.cons (i := 10) rfl (.cons (i := 9) rfl (.cons (i := 7) rfl (.cons (i := 6) rfl (.cons (i := 4) rfl (.cons (i := 0) rfl (.nil _)))))))) ?_
      refine W_seq ?_
      refine W_seq ?_
      refine W_region ?_
      refine L_yld (Y_move rfl) rfl rfl rfl ?_
      refine L_nil ?_
      refine X_then ?_
      refine W_sub _ (.cons (i := 42) rfl (.cons (i := 10) rfl (.cons (i := 9) rfl (.cons (i := 7) rfl (.cons (i := 6) rfl (.cons (i := 4) rfl (.cons (i := 0) rfl (.nil _)))))))) ?_
      refine W_split rfl (fun o => ?_) (fun o => ?_)
      · refine W_seq ?_
        refine W_region ?_
        refine L_call (E_call (by kernel_rfl) rfl) (law10_alive _ (hK.ext ((((hn1.ext.then' hp3.only (by simp) (Nat.le_refl _)).trans hx8).trans hn9.ext).then' hp11.only (by simp) (Nat.le_trans (Nat.le_trans hn1.ext.size hp3.only.size) hx8.size))) (hN.ext ((((hn1.ext.then' hp3.only (by simp) (Nat.le_refl _)).trans hx8).trans hn9.ext).then' hp11.only (by simp) (Nat.le_trans (Nat.le_trans hn1.ext.size hp3.only.size) hx8.size))) (hE.ext ((((hn1.ext.then' hp3.only (by simp) (Nat.le_refl _)).trans hx8).trans hn9.ext).then' hp11.only (by simp) (Nat.le_trans (Nat.le_trans hn1.ext.size hp3.only.size) hx8.size))) (hT.ext ((((hn1.ext.then' hp3.only (by simp) (Nat.le_refl _)).trans hx8).trans hn9.ext).then' hp11.only (by simp) (Nat.le_trans (Nat.le_trans hn1.ext.size hp3.only.size) hx8.size)))) rfl rfl rfl ?_
        rintro _ h9 ⟨rfl, hx15⟩
        refine L_yld (Y_move rfl) rfl rfl rfl ?_
        refine L_yld (Y_fieldAddr (off := 2) (by kernel_rfl) rfl rfl) rfl rfl rfl ?_
        refine L_yld (Y_ldblk Tryd.underlying9 rfl rfl (hk12.ext hx15) rfl) rfl rfl rfl ?_
        refine L_yld (Y_move rfl) rfl rfl rfl ?_
        refine L_yld (Y_seql rfl rfl) rfl rfl rfl ?_
        refine L_yld (Y_pick_t rfl rfl) rfl rfl rfl ?_
        refine L_yld (Y_move rfl) rfl rfl rfl ?_
        refine L_known (d := 50) true rfl (by exact decide_eq_true (by rw [fP, if_pos e0])) ?_
        refine L_yld (Y_fieldAddr (off := 1) (by kernel_rfl) rfl rfl) rfl rfl rfl ?_
        refine L_yld (Y_ldblk Tryd.underlying9 rfl rfl (hk12.ext hx15) rfl) rfl rfl rfl ?_
        refine L_yld (Y_move rfl) rfl rfl rfl ?_
        refine L_yld (Y_seql rfl rfl) rfl rfl rfl ?_
        refine L_yld (Y_pick_t rfl rfl) rfl rfl rfl ?_
        refine L_yld (Y_move rfl) rfl rfl rfl ?_
        refine L_known (d := 56) true rfl (by exact decide_eq_true (by rw [fN, if_pos e0])) ?_
        refine L_yld (Y_move rfl) rfl rfl rfl ?_
        refine L_yld (Y_lenr Tryd.underlying22 rfl (hr17.rows.ext ((hn9.ext.then' hp11.only (by simp) (Nat.le_refl _)).trans hx15))) rfl rfl rfl ?_
        refine L_yld (Y_eql rfl rfl) rfl rfl rfl ?_
        refine L_yld (Y_pick_t rfl rfl) rfl rfl rfl ?_
        refine L_yld (Y_assign rfl) rfl rfl rfl ?_
        refine L_nil ?_
        refine X_then ?_
        refine W_sub _ (.cons (i := 4) rfl (.cons (i := 7) rfl (.cons (i := 6) rfl (.cons (i := 0) rfl (.nil _))))) ?_
        refine W_ret ?_
        refine X_then_ret ?_
        refine X_ret1 rfl rfl ?_
        exact ⟨congrArg Value.bool (decide_eq_true (by rw [fR, if_pos e0]; simp [frecs, o])), (((((hn1.ext.then' hp3.only (by simp) (Nat.le_refl _)).trans hx8).trans hn9.ext).then' hp11.only (by simp) (Nat.le_trans (Nat.le_trans hn1.ext.size hp3.only.size) hx8.size)).trans hx15)⟩
      · refine W_skip ?_
        refine X_then ?_
        refine W_sub _ (.cons (i := 7) rfl (.cons (i := 6) rfl (.cons (i := 4) rfl (.cons (i := 0) rfl (.nil _))))) ?_
        have o0 : sok p = false := by simpa using o
        have sn := sok_nil o0
        have hrc : fR (fcheck 0 p (m % 4096) [] 0) p [] 0 = [⟨[112, 97, 116, 104], p⟩] := by rw [fR, if_pos e0]; simp [frecs, o0]
        refine W_seq ?_
        refine W_region ?_
        refine L_call (E_call (by kernel_rfl) rfl) (law10_alive _ (hK.ext ((((hn1.ext.then' hp3.only (by simp) (Nat.le_refl _)).trans hx8).trans hn9.ext).then' hp11.only (by simp) (Nat.le_trans (Nat.le_trans hn1.ext.size hp3.only.size) hx8.size))) (hN.ext ((((hn1.ext.then' hp3.only (by simp) (Nat.le_refl _)).trans hx8).trans hn9.ext).then' hp11.only (by simp) (Nat.le_trans (Nat.le_trans hn1.ext.size hp3.only.size) hx8.size))) (hE.ext ((((hn1.ext.then' hp3.only (by simp) (Nat.le_refl _)).trans hx8).trans hn9.ext).then' hp11.only (by simp) (Nat.le_trans (Nat.le_trans hn1.ext.size hp3.only.size) hx8.size))) (hT.ext ((((hn1.ext.then' hp3.only (by simp) (Nat.le_refl _)).trans hx8).trans hn9.ext).then' hp11.only (by simp) (Nat.le_trans (Nat.le_trans hn1.ext.size hp3.only.size) hx8.size)))) rfl rfl rfl ?_
        rintro _ h10 ⟨rfl, hx16⟩
        refine L_yld (Y_move rfl) rfl rfl rfl ?_
        refine L_yld (Y_fieldAddr (off := 2) (by kernel_rfl) rfl rfl) rfl rfl rfl ?_
        refine L_yld (Y_ldblk Tryd.underlying9 rfl rfl (hk12.ext hx16) rfl) rfl rfl rfl ?_
        refine L_yld (Y_seql rfl rfl) rfl rfl rfl ?_
        refine L_yld (Y_pick_t rfl rfl) rfl rfl rfl ?_
        refine L_yld (Y_move rfl) rfl rfl rfl ?_
        refine L_known (d := 67) true rfl (by exact decide_eq_true (by rw [fP, if_pos e0]; exact sn.2)) ?_
        refine L_yld (Y_fieldAddr (off := 1) (by kernel_rfl) rfl rfl) rfl rfl rfl ?_
        refine L_yld (Y_ldblk Tryd.underlying9 rfl rfl (hk12.ext hx16) rfl) rfl rfl rfl ?_
        refine L_yld (Y_seql rfl rfl) rfl rfl rfl ?_
        refine L_yld (Y_pick_t rfl rfl) rfl rfl rfl ?_
        refine L_yld (Y_move rfl) rfl rfl rfl ?_
        refine L_known (d := 72) true rfl (by exact decide_eq_true (by rw [fN, if_pos e0]; exact sn.1)) ?_
        refine L_yld (Y_move rfl) rfl rfl rfl ?_
        refine L_yld (Y_lenr Tryd.underlying22 rfl (hr17.rows.ext ((hn9.ext.then' hp11.only (by simp) (Nat.le_refl _)).trans hx16))) rfl rfl rfl ?_
        refine L_yld (Y_eql rfl rfl) rfl rfl rfl ?_
        refine L_yld (Y_pick_t rfl rfl) rfl rfl rfl ?_
        refine L_yld (Y_move rfl) rfl rfl rfl ?_
        refine L_known (d := 77) true rfl (by exact decide_eq_true (by rw [hrc]; rfl)) ?_
        refine L_yld (Y_move rfl) rfl rfl rfl ?_
        refine L_yld (Y_idxr Tryd.underlying22 (show _ = some 2 by kernel_rfl) rfl rfl rfl (hr17.rows.ext ((hn9.ext.then' hp11.only (by simp) (Nat.le_refl _)).trans hx16)) (by first | omega | (rw [hrc]; simp; done)) (by first | omega | (rw [hrc]; simp; done))) rfl rfl rfl ?_
        refine L_yld (Y_ldrA0 (k := 0) (us := [str ((at_rec (fR (fcheck (0 : Int) p (m % 4096) [] (0 : Int)) p [] (0 : Int)) 0).key), str ((at_rec (fR (fcheck (0 : Int) p (m % 4096) [] (0 : Int)) p [] (0 : Int)) 0).val)]) Tryd.underlying30 rfl (show _ = some 2 by kernel_rfl) rfl rfl (hr17.rows.ext ((hn9.ext.then' hp11.only (by simp) (Nat.le_refl _)).trans hx16)) (by first | omega | (rw [hrc]; simp; done)) rfl) rfl rfl rfl ?_
        refine L_yld (Y_move rfl) rfl rfl rfl ?_
        refine L_yld (Y_build (v := .agg #[str [112, 97, 116, 104], str p]) (pv := [(0, str [112, 97, 116, 104]), (1, str p)]) (evp (is := [0, 1]) (os := [.const (str [112, 97, 116, 104]), .tmp 81]) (vs := [str [112, 97, 116, 104], str p]) rfl rfl) (fun _ => by kernel_rfl)) rfl rfl rfl ?_
        refine L_yld (Y_steql (xs := [str ((at_rec (fR (fcheck (0 : Int) p (m % 4096) [] (0 : Int)) p [] (0 : Int)) 0).key), str ((at_rec (fR (fcheck (0 : Int) p (m % 4096) [] (0 : Int)) p [] (0 : Int)) 0).val)]) (ys := [str [112, 97, 116, 104], str p]) (r := decide (((at_rec (fR (fcheck (0 : Int) p (m % 4096) [] (0 : Int)) p [] (0 : Int)) 0).key) = [112, 97, 116, 104] ∧ ((at_rec (fR (fcheck (0 : Int) p (m % 4096) [] (0 : Int)) p [] (0 : Int)) 0).val) = p)) (by kernel_rfl) (by kernel_rfl) (by kernel_rfl) rfl rfl (steq (ks := [.s, .s]) (by kernel_rfl) (by simp [eqks, eqk]))) rfl rfl rfl ?_
        refine L_yld (Y_pick_t rfl rfl) rfl rfl rfl ?_
        refine L_yld (Y_assign rfl) rfl rfl rfl ?_
        refine L_nil ?_
        refine X_then ?_
        refine W_sub _ (.cons (i := 4) rfl (.nil _)) ?_
        refine W_ret ?_
        refine X_ret1 rfl rfl ?_
        exact ⟨congrArg Value.bool (decide_eq_true (by rw [hrc]; exact ⟨rfl, rfl⟩)), (((((hn1.ext.then' hp3.only (by simp) (Nat.le_refl _)).trans hx8).trans hn9.ext).then' hp11.only (by simp) (Nat.le_trans (Nat.le_trans hn1.ext.size hp3.only.size) hx8.size)).trans hx16)⟩
end Go.Xp
