/- Layer 10 (fit): the chapter's example. -/
import Derived.Test.YtkcgabodpcfohaaDoorFitR
set_option linter.unusedSimpArgs false
set_option linter.unusedVariables false
set_option linter.unusedSectionVars false
namespace Go.Xp
open Go.Proofs

theorem alive10_check : fcheck 1 [97] 0 [] 8589934592 = 0 := by decide +kernel
theorem alive10_recs : frecs [97] [] 8589934592 = [⟨[115, 105, 122, 101], [56, 53, 56, 57, 57, 51, 52, 53, 57, 50]⟩] := by decide +kernel
theorem alive10_name : snam [97] = [97] := by decide +kernel

set_option maxRecDepth 100000 in
theorem law10_alive (h : Heap) (hK : GlbK h) (hN : GlbN h) (hE : GlbE h) (hT : GlbT h) : Cal Tryd.prog 29 #[] h (fun v h' => v = .bool true ∧ Ext h h') := by
  refine Cal_enter (args := []) Tryd.func29 rfl rfl rfl (fun σ => ?_)
  refine W_seq ?_
  refine W_region ?_
  refine L_yld (Y_assign rfl) rfl rfl rfl ?_
  refine L_nil ?_
  refine X_then ?_
  refine W_seq ?_
  refine W_region ?_
  refine L_yld (Y_build (v := .agg #[.int .i64 1, str [97], .int .i64 0, str [], .int .i64 8589934592]) (pv := [(0, .int .i64 1), (1, str [97]), (4, .int .i64 8589934592)]) (evp (is := [0, 1, 4]) (os := [.const (.int .i64 1), .const (str [97]), .const (.int .i64 8589934592)]) (vs := [.int .i64 1, str [97], .int .i64 8589934592]) rfl rfl) (fun _ => by kernel_rfl)) rfl rfl rfl ?_
  refine L_call (E_call (by kernel_rfl) rfl) (fit_Plan _ hK hN hE hT (1 : Int) [97] (0 : Int) [] (8589934592 : Int) (by first | first | omega | (rw [fR, if_pos alive10_check, alive10_recs]; decide) | rfl | (simp <;> omega)) (by first | first | omega | (rw [fR, if_pos alive10_check, alive10_recs]; decide) | rfl | (simp <;> omega)) (by first | first | omega | (rw [fR, if_pos alive10_check, alive10_recs]; decide) | rfl | (simp <;> omega))) rfl rfl rfl ?_
  rintro _ h1 ⟨s11, rfl, hr12, hx3⟩
  refine L_yld (Y_move rfl) rfl rfl rfl ?_
  refine L_yld (Y_extract (v := .agg #[.int .u8 (fT (fcheck (1 : Int) [97] (0 : Int) [] (8589934592 : Int)) (1 : Int)), str (fN (fcheck (1 : Int) [97] (0 : Int) [] (8589934592 : Int)) [97]), str (fP (fcheck (1 : Int) [97] (0 : Int) [] (8589934592 : Int)) [97]), str (fL (fcheck (1 : Int) [97] (0 : Int) [] (8589934592 : Int)) []), .int .i64 (fM (fcheck (1 : Int) [97] (0 : Int) [] (8589934592 : Int)) (0 : Int)), .int .i64 (fZ (fcheck (1 : Int) [97] (0 : Int) [] (8589934592 : Int)) (8589934592 : Int))]) rfl rfl) rfl rfl rfl ?_
  refine L_yld (Y_extract (v := s11) rfl rfl) rfl rfl rfl ?_
  refine L_yld (Y_extract (v := .int .i64 (fcheck (1 : Int) [97] (0 : Int) [] (8589934592 : Int))) rfl rfl) rfl rfl rfl ?_
  refine L_mks (M_alloc (u := .agg #[.int .u8 0, str [], str [], str [], .int .i64 0, .int .i64 0]) (by kernel_rfl)) rfl rfl rfl ?_
  rintro _ h2 ⟨rfl, hn4⟩
  have hk5 : Blk h2 h1.size [.int .u8 0, str [], str [], str [], .int .i64 0, .int .i64 0] := hn4.blk
  refine L_dos (D_store (us := [.int .u8 (fT (fcheck (1 : Int) [97] (0 : Int) [] (8589934592 : Int)) (1 : Int)), str (fN (fcheck (1 : Int) [97] (0 : Int) [] (8589934592 : Int)) [97]), str (fP (fcheck (1 : Int) [97] (0 : Int) [] (8589934592 : Int)) [97]), str (fL (fcheck (1 : Int) [97] (0 : Int) [] (8589934592 : Int)) []), .int .i64 (fM (fcheck (1 : Int) [97] (0 : Int) [] (8589934592 : Int)) (0 : Int)), .int .i64 (fZ (fcheck (1 : Int) [97] (0 : Int) [] (8589934592 : Int)) (8589934592 : Int))]) (show _ = some 6 by kernel_rfl) rfl rfl rfl (by simp [Value.oneCell']) hk5 (by simp)) rfl rfl ?_
  rintro h3 hp6
  have hk7 : Blk h3 h1.size [.int .u8 (fT (fcheck (1 : Int) [97] (0 : Int) [] (8589934592 : Int)) (1 : Int)), str (fN (fcheck (1 : Int) [97] (0 : Int) [] (8589934592 : Int)) [97]), str (fP (fcheck (1 : Int) [97] (0 : Int) [] (8589934592 : Int)) [97]), str (fL (fcheck (1 : Int) [97] (0 : Int) [] (8589934592 : Int)) []), .int .i64 (fM (fcheck (1 : Int) [97] (0 : Int) [] (8589934592 : Int)) (0 : Int)), .int .i64 (fZ (fcheck (1 : Int) [97] (0 : Int) [] (8589934592 : Int)) (8589934592 : Int))] := hp6.blk
  refine L_yld (Y_assign rfl) rfl rfl rfl ?_
  refine L_yld (Y_assign rfl) rfl rfl rfl ?_
  refine L_nil ?_
  refine X_then ?_
  refine W_sub _ (.cons (i := 3) rfl (.cons (i := 2) rfl (.cons (i := 1) rfl (.cons (i := 0) rfl (.nil _))))) ?_
  refine W_seq ?_
  refine W_region ?_
  refine L_yld (Y_move rfl) rfl rfl rfl ?_
  refine L_yld (Y_eql rfl rfl) rfl rfl rfl ?_
  refine L_yld (Y_move rfl) rfl rfl rfl ?_
  refine L_known (d := 12) true rfl (by exact decide_eq_true (by exact alive10_check)) ?_
  refine L_yld (Y_fieldAddr (off := 5) (by kernel_rfl) rfl rfl) rfl rfl rfl ?_
  refine L_yld (Y_ldblk Tryd.underlying2 rfl rfl hk7 rfl) rfl rfl rfl ?_
  refine L_yld (Y_eql rfl rfl) rfl rfl rfl ?_
  refine L_yld (Y_pick_t rfl rfl) rfl rfl rfl ?_
  refine L_yld (Y_move rfl) rfl rfl rfl ?_
  refine L_known (d := 17) true rfl (by exact decide_eq_true (by rw [fZ, if_pos alive10_check]; rfl)) ?_
  refine L_yld (Y_fieldAddr (off := 1) (by kernel_rfl) rfl rfl) rfl rfl rfl ?_
  refine L_yld (Y_ldblk Tryd.underlying9 rfl rfl hk7 rfl) rfl rfl rfl ?_
  refine L_yld (Y_seql rfl rfl) rfl rfl rfl ?_
  refine L_yld (Y_pick_t rfl rfl) rfl rfl rfl ?_
  refine L_yld (Y_move rfl) rfl rfl rfl ?_
  refine L_known (d := 22) true rfl (by exact decide_eq_true (by rw [fN, if_pos alive10_check]; exact alive10_name)) ?_
  refine L_yld (Y_move rfl) rfl rfl rfl ?_
  refine L_yld (Y_lenr Tryd.underlying22 rfl (hr12.rows.ext (hn4.ext.then' hp6.only (by simp) (Nat.le_refl _)))) rfl rfl rfl ?_
  refine L_yld (Y_eql rfl rfl) rfl rfl rfl ?_
  refine L_yld (Y_pick_t rfl rfl) rfl rfl rfl ?_
  refine L_yld (Y_move rfl) rfl rfl rfl ?_
  refine L_known (d := 27) true rfl (by exact decide_eq_true (by rw [fR, if_pos alive10_check, alive10_recs]; rfl)) ?_
  refine L_yld (Y_move rfl) rfl rfl rfl ?_
  refine L_yld (Y_idxr Tryd.underlying22 (show _ = some 2 by kernel_rfl) rfl rfl rfl (hr12.rows.ext (hn4.ext.then' hp6.only (by simp) (Nat.le_refl _))) (by first | omega | (rw [fR, if_pos alive10_check, alive10_recs]; decide)) (by first | omega | (rw [fR, if_pos alive10_check, alive10_recs]; decide))) rfl rfl rfl ?_
  refine L_yld (Y_ldrA0 (k := 0) (us := [str ((at_rec (fR (fcheck (1 : Int) [97] (0 : Int) [] (8589934592 : Int)) [97] [] (8589934592 : Int)) 0).key), str ((at_rec (fR (fcheck (1 : Int) [97] (0 : Int) [] (8589934592 : Int)) [97] [] (8589934592 : Int)) 0).val)]) Tryd.underlying30 rfl (show _ = some 2 by kernel_rfl) rfl rfl (hr12.rows.ext (hn4.ext.then' hp6.only (by simp) (Nat.le_refl _))) (by first | omega | (rw [fR, if_pos alive10_check, alive10_recs]; decide)) rfl) rfl rfl rfl ?_
  refine L_yld (Y_build (v := .agg #[str [115, 105, 122, 101], str [56, 53, 56, 57, 57, 51, 52, 53, 57, 50]]) (pv := [(0, str [115, 105, 122, 101]), (1, str [56, 53, 56, 57, 57, 51, 52, 53, 57, 50])]) (evp (is := [0, 1]) (os := [.const (str [115, 105, 122, 101]), .const (str [56, 53, 56, 57, 57, 51, 52, 53, 57, 50])]) (vs := [str [115, 105, 122, 101], str [56, 53, 56, 57, 57, 51, 52, 53, 57, 50]]) rfl rfl) (fun _ => by kernel_rfl)) rfl rfl rfl ?_
  refine L_yld (Y_steql (xs := [str ((at_rec (fR (fcheck (1 : Int) [97] (0 : Int) [] (8589934592 : Int)) [97] [] (8589934592 : Int)) 0).key), str ((at_rec (fR (fcheck (1 : Int) [97] (0 : Int) [] (8589934592 : Int)) [97] [] (8589934592 : Int)) 0).val)]) (ys := [str [115, 105, 122, 101], str [56, 53, 56, 57, 57, 51, 52, 53, 57, 50]]) (r := decide (((at_rec (fR (fcheck (1 : Int) [97] (0 : Int) [] (8589934592 : Int)) [97] [] (8589934592 : Int)) 0).key) = [115, 105, 122, 101] ∧ ((at_rec (fR (fcheck (1 : Int) [97] (0 : Int) [] (8589934592 : Int)) [97] [] (8589934592 : Int)) 0).val) = [56, 53, 56, 57, 57, 51, 52, 53, 57, 50])) (by kernel_rfl) (by kernel_rfl) (by kernel_rfl) rfl rfl (steq (ks := [.s, .s]) (by kernel_rfl) (by simp [eqks, eqk]))) rfl rfl rfl ?_
  refine L_yld (Y_pick_t rfl rfl) rfl rfl rfl ?_
  refine L_yld (Y_assign rfl) rfl rfl rfl ?_
  refine L_nil ?_
  refine X_then ?_
  refine W_sub _ (.cons (i := 0) rfl (.nil _)) ?_
  refine W_ret ?_
  refine X_ret1 rfl rfl ?_
  exact ⟨congrArg Value.bool (decide_eq_true (by rw [fR, if_pos alive10_check, alive10_recs]; exact ⟨rfl, rfl⟩)), ((hx3.trans hn4.ext).then' hp6.only (by simp) hx3.size)⟩

theorem fR_len (c : Int) (p tg : List UInt8) (z : Int) : (fR c p tg z).length ≤ 3 := by
  unfold fR frecs
  split
  · simp only [List.length_append]; split <;> split <;> split <;> simp
  · simp

end Go.Xp
