/- Layer 10 (fit): the reference, and the laws' helpers. -/
import Derived.Test.YtmmpnieglihhnaaDoorFit
import Derived.Test.YtmmpnieglihhnaaDoorOf
set_option linter.unusedSimpArgs false
set_option linter.unusedVariables false
set_option linter.unusedSectionVars false
namespace Go.Xp
open Go.Proofs

set_option maxRecDepth 100000 in
theorem law10_TooLarge (h : Heap) (k : Int) (p : List UInt8) (m : Int) (tg : List UInt8) (z : Int) (hp : p.length ≤ 140737488355328) (ht : tg.length ≤ 140737488355328) : Cal Tryd.prog 8 #[.agg #[.int .i64 (k), str p, .int .i64 (m), str tg, .int .i64 (z)]] h (fun v h' => v = .int .i64 ((if 70000 < p.length + tg.length then 1 else 0 : Int)) ∧ Ext h h') := by
  refine Cal_enter (args := [.agg #[.int .i64 (k), str p, .int .i64 (m), str tg, .int .i64 (z)]]) Tryd.func8 rfl rfl rfl (fun σ => ?_)
  refine W_seq ?_
  refine W_region ?_
  refine L_mks (M_box rfl) rfl rfl rfl ?_
  rintro _ h1 ⟨rfl, hn1⟩
  have hk2 : Blk h1 h.size [.int .i64 (k), str p, .int .i64 (m), str tg, .int .i64 (z)] := hn1.blk
  refine L_yld (Y_assign rfl) rfl rfl rfl ?_
  refine L_nil ?_
  refine X_then ?_
  refine W_sub _ (.cons (i := 2) rfl (.cons (i := 1) rfl (.nil _))) ?_
  refine W_seq ?_
  refine W_seq ?_
  refine W_region ?_
  refine L_yld (Y_fieldAddr (off := 1) (by kernel_rfl) rfl rfl) rfl rfl rfl ?_
  refine L_yld (Y_ldblk Tryd.underlying9 rfl rfl hk2 rfl) rfl rfl rfl ?_
  refine L_yld (Y_slen Tryd.underlying9 rfl) rfl rfl rfl ?_
  refine L_yld (Y_fieldAddr (off := 3) (by kernel_rfl) rfl rfl) rfl rfl rfl ?_
  refine L_yld (Y_ldblk Tryd.underlying9 rfl rfl hk2 rfl) rfl rfl rfl ?_
  refine L_yld (Y_slen Tryd.underlying9 rfl) rfl rfl rfl ?_
  refine L_yld (Y_add rfl rfl (by omega) (by omega)) rfl rfl rfl ?_
  refine L_yld (Y_gtr rfl rfl) rfl rfl rfl ?_
  refine L_nil ?_
  refine X_then ?_
  refine W_sub _ (.cons (i := 10) rfl (.cons (i := 2) rfl (.nil _))) ?_
  refine W_splitd rfl (fun a => ?_) (fun a => ?_)
  · refine W_seq ?_
    refine W_region ?_
    refine L_yld (Y_assign rfl) rfl rfl rfl ?_
    refine L_nil ?_
    refine X_then ?_
    refine W_sub _ (.cons (i := 2) rfl (.nil _)) ?_
    refine W_ret ?_
    refine X_then_ret ?_
    refine X_ret1 rfl rfl ?_
    exact ⟨by rw [if_pos (by omega)], hn1.ext⟩
  · refine W_skip ?_
    refine X_then ?_
    refine W_sub _ (.cons (i := 2) rfl (.nil _)) ?_
    refine W_seq ?_
    refine W_region ?_
    refine L_yld (Y_assign rfl) rfl rfl rfl ?_
    refine L_nil ?_
    refine X_then ?_
    refine W_ret ?_
    refine X_ret1 rfl rfl ?_
    exact ⟨by rw [if_neg (by omega)], hn1.ext⟩
theorem rec_ext {a b : List Rec} (hl : a.length = b.length) (h : ∀ k, k < a.length → at_rec a k = at_rec b k) : a = b := by
  apply List.ext_getElem hl
  intro i h1 h2
  have := h i h1
  rw [at_rec_eq h1, at_rec_eq h2] at this
  exact this

theorem rec_eq {a b : Rec} (h : a.key = b.key ∧ a.val = b.val) : a = b := by cases a; cases b; cases h.1; cases h.2; rfl

theorem sok_nil {p : List UInt8} (h : sok p = false) : snam p = [] ∧ spre p = [] := by
  unfold sok at h
  simp only [Bool.or_eq_false_iff, decide_eq_false_iff_not, Bool.not_eq_false'] at h
  unfold snam spre
  exact ⟨by rw [if_neg h.1, if_pos h.2], by rw [if_neg h.1, if_pos h.2]⟩
end Go.Xp
