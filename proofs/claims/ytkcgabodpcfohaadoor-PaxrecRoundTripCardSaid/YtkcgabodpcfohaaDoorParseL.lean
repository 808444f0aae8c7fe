/- Layer 9 (paxrec): the law on Parse and its reference. -/
import Derived.Test.YtkcgabodpcfohaaDoorParseR
set_option linter.unusedSimpArgs false
set_option linter.unusedVariables false
set_option linter.unusedSectionVars false
namespace Go.Xp
open Go.Proofs

theorem ploop_len : ∀ (f : Nat) (l : List Rec) (i : Nat) (b : List UInt8), (ploop f l i b).1.length ≤ l.length + f
  | 0, l, i, b => by simp [ploop]
  | f + 1, l, i, b => by
    rw [ploop]
    split
    · split
      · simp
      · have := ploop_len f (l ++ [(ptake (b.drop i)).1]) (i + (ptake (b.drop i)).2.1.toNat) b
        simp at this; omega
    · simp
theorem pres_len (b : List UInt8) : (pres b).1.length ≤ 262145 := by
  unfold pres
  split
  · simp
  · have := ploop_len (b.length + 1) [] 0 b
    simp at this; omega
set_option maxRecDepth 100000 in
theorem paxrecParseMatchesReference (h : Heap) (hK : GlbK h) (hN : GlbN h) (hE : GlbE h) (v : Value) (b : List UInt8) (hb : Bytes h v b) (hl : b.length ≤ 140737488355328) : Cal Tryd.prog 13 #[v] h (fun v h' => v = .bool true ∧ Ext h h') := by
  refine Cal_enter (args := [v]) Tryd.func13 rfl rfl rfl (fun σ => ?_)
  refine W_seq ?_
  refine W_region ?_
  refine L_yld (Y_assign rfl) rfl rfl rfl ?_
  refine L_nil ?_
  refine X_then ?_
  refine W_seq ?_
  refine W_seq ?_
  refine W_region ?_
  refine L_yld (Y_move rfl) rfl rfl rfl ?_
  refine L_yld (Y_len Tryd.underlying23 rfl hb) rfl rfl rfl ?_
  refine L_yld (Y_gtr rfl rfl) rfl rfl rfl ?_
  refine L_nil ?_
  refine X_then ?_
  refine W_sub _ (.cons (i := 11) rfl (.cons (i := 2) rfl (.cons (i := 0) rfl (.nil _)))) ?_
  refine W_splitd rfl (fun g => ?_) (fun g => ?_)
  · refine W_seq ?_
    refine W_region ?_
    refine L_call (E_call (by kernel_rfl) rfl) (law09_alive _ hK hN hE) rfl rfl rfl ?_
    rintro _ h1 ⟨rfl, hx1⟩
    refine L_yld (Y_assign rfl) rfl rfl rfl ?_
    refine L_nil ?_
    refine X_then ?_
    refine W_sub _ (.cons (i := 2) rfl (.cons (i := 0) rfl (.nil _))) ?_
    refine W_ret ?_
    refine X_then_ret ?_
    refine X_ret1 rfl rfl ?_
    exact ⟨rfl, hx1⟩
  · refine W_skip ?_
    refine X_then ?_
    refine W_sub _ (.cons (i := 2) rfl (.cons (i := 0) rfl (.nil _))) ?_
    refine W_seq ?_
    refine W_region ?_
    refine L_yld (Y_move rfl) rfl rfl rfl ?_
    refine L_call (E_call (by kernel_rfl) rfl) (rec_Parse _ hK hN hE v b hb (by first | first | omega | (exact Nat.le_trans (pres_len _) (by decide)) | rfl | (simp <;> omega))) rfl rfl rfl ?_
    rintro _ h2 ⟨s02, rfl, hr03, hx4⟩
    refine L_yld (Y_move rfl) rfl rfl rfl ?_
    refine L_yld (Y_extract (v := s02) rfl rfl) rfl rfl rfl ?_
    refine L_yld (Y_extract (v := .int .i64 ((pres b).2.1)) rfl rfl) rfl rfl rfl ?_
    refine L_yld (Y_extract (v := .int .i64 ((pres b).2.2)) rfl rfl) rfl rfl rfl ?_
    refine L_yld (Y_assign rfl) rfl rfl rfl ?_
    refine L_yld (Y_assign rfl) rfl rfl rfl ?_
    refine L_yld (Y_assign rfl) rfl rfl rfl ?_
    refine L_nil ?_
    refine X_then ?_
    refine W_sub _ (.cons (i := 5) rfl (.cons (i := 4) rfl (.cons (i := 3) rfl (.cons (i := 2) rfl (.cons (i := 0) rfl (.nil _)))))) ?_
    refine W_seq ?_
    refine W_region ?_
    refine L_yld (Y_move rfl) rfl rfl rfl ?_
    refine L_call (E_call (by kernel_rfl) rfl) (ref09_Parse _ v b (hb.ext hx4) (by first | first | omega | (exact Nat.le_trans (pres_len _) (by decide)) | rfl | (simp <;> omega))) rfl rfl rfl ?_
    rintro _ h3 ⟨s05, rfl, hr06, hx7⟩
    refine L_yld (Y_move rfl) rfl rfl rfl ?_
    refine L_yld (Y_extract (v := s05) rfl rfl) rfl rfl rfl ?_
    refine L_yld (Y_extract (v := .int .i64 ((pres b).2.1)) rfl rfl) rfl rfl rfl ?_
    refine L_yld (Y_extract (v := .int .i64 ((pres b).2.2)) rfl rfl) rfl rfl rfl ?_
    refine L_yld (Y_assign rfl) rfl rfl rfl ?_
    refine L_yld (Y_assign rfl) rfl rfl rfl ?_
    refine L_yld (Y_assign rfl) rfl rfl rfl ?_
    refine L_nil ?_
    refine X_then ?_
    refine W_sub _ (.cons (i := 8) rfl (.cons (i := 7) rfl (.cons (i := 6) rfl (.cons (i := 5) rfl (.cons (i := 4) rfl (.cons (i := 3) rfl (.cons (i := 2) rfl (.nil _)))))))) ?_
    refine W_seq ?_
    refine W_region ?_
    refine L_call (E_call (by kernel_rfl) rfl) (law09_alive _ (hK.ext (hx4.trans hx7)) (hN.ext (hx4.trans hx7)) (hE.ext (hx4.trans hx7))) rfl rfl rfl ?_
    rintro _ h4 ⟨rfl, hx8⟩
    refine L_yld (Y_move rfl) rfl rfl rfl ?_
    refine L_yld (Y_move rfl) rfl rfl rfl ?_
    refine L_yld (Y_move rfl) rfl rfl rfl ?_
    refine L_call (E_call (by kernel_rfl) rfl) (slices_EqualR _ s02 ((pres b).1) (hr03.rows.ext (hx7.trans hx8)) s05 ((pres b).1) (hr06.rows.ext hx8) (by first | first | omega | (exact Nat.le_trans (pres_len _) (by decide)) | rfl | (simp <;> omega))) rfl rfl rfl ?_
    rintro _ h4 ⟨rfl, rfl⟩
    refine L_yld (Y_pick_t rfl rfl) rfl rfl rfl ?_
    refine L_yld (Y_move rfl) rfl rfl rfl ?_
    refine L_known (d := 31) true rfl (by exact decide_eq_true (by rfl)) ?_
    refine L_yld (Y_move rfl) rfl rfl rfl ?_
    refine L_yld (Y_move rfl) rfl rfl rfl ?_
    refine L_yld (Y_eql rfl rfl) rfl rfl rfl ?_
    refine L_yld (Y_pick_t rfl rfl) rfl rfl rfl ?_
    refine L_yld (Y_move rfl) rfl rfl rfl ?_
    refine L_known (d := 36) true rfl (by exact decide_eq_true (by rfl)) ?_
    refine L_yld (Y_move rfl) rfl rfl rfl ?_
    refine L_yld (Y_move rfl) rfl rfl rfl ?_
    refine L_yld (Y_eql rfl rfl) rfl rfl rfl ?_
    refine L_yld (Y_pick_t rfl rfl) rfl rfl rfl ?_
    refine L_yld (Y_assign rfl) rfl rfl rfl ?_
    refine L_nil ?_
    refine X_then ?_
    refine W_sub _ (.cons (i := 2) rfl (.nil _)) ?_
    refine W_ret ?_
    refine X_ret1 rfl rfl ?_
    exact ⟨by simp, ((hx4.trans hx7).trans hx8)⟩
end Go.Xp
