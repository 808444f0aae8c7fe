/- Layer 9 (paxrec): more laws. -/
import Derived.Test.YtkcgabodpcfohaaDoorRecL
set_option linter.unusedSimpArgs false
set_option linter.unusedVariables false
set_option linter.unusedSectionVars false
namespace Go.Xp
open Go.Proofs

theorem rgood_of {l : List Rec} (h : rlerr none l = 0) : ∀ {i : Nat}, i ≤ l.length → RGood l i
  | 0, _ => RGood.zero l
  | i + 1, hi => by
    have hg := rgood_of h (i := i) (by omega)
    have hb : rerr (at_rec l i).key (at_rec l i).val = 0 := Classical.byContradiction fun hb => by rw [rlerr_bad hg (by omega) hb] at h; exact hb h
    refine hg.succ (by omega) hb (fun h0 => ?_)
    rcases Bool.eq_false_or_eq_true (sle (at_rec l i).key (at_rec l (i - 1)).key) with h1 | h1
    · rw [rlerr_order hg (by omega) h0 hb h1] at h; cases h
    · exact h1
theorem rlerr_one {r : Rec} (h : rerr r.key r.val = 0) : rlerr none [r] = 0 := by
  rw [rlerr, if_neg (by simpa using h)]; rfl
theorem rfmt_one {r : Rec} (h : rerr r.key r.val = 0) : rfmt [r] = rone r := by
  unfold rfmt; rw [if_pos (rlerr_one h)]; simp
theorem rone_length {r : Rec} (h : rerr r.key r.val = 0) : (rone r).length = psz (rrest r.key r.val) := by
  have h1 := rerr_len h
  have h2 := pdig_ok (rest := rrest r.key r.val) (by unfold rrest; omega)
  unfold rone
  simp only [List.length_append, List.length_cons, List.length_nil, Lib.decDigits_length]
  have h3 : psz (rrest r.key r.val) = rrest r.key r.val + pdig (rrest r.key r.val) := rfl
  have h4 : rrest r.key r.val = r.key.length + r.val.length + 3 := rfl
  rw [h3, h2.2.2.1]; omega

set_option maxRecDepth 100000 in
theorem paxrecConcatenation (h : Heap) (hK : GlbK h) (hN : GlbN h) (hE : GlbE h) (w : Value) (l : List Rec) (hl : Rows recS h w l) (hn : l.length ≤ 140737488355328) (hs : ∀ r ∈ l, r.key.length ≤ 140737488355328 ∧ r.val.length ≤ 140737488355328) : Cal Tryd.prog 3 #[w] h (fun v h' => v = .bool true ∧ Ext h h') := by
  refine Cal_enter (args := [w]) Tryd.func3 rfl rfl rfl (fun σ => ?_)
  refine W_seq ?_
  refine W_region ?_
  refine L_yld (Y_assign rfl) rfl rfl rfl ?_
  refine L_nil ?_
  refine X_then ?_
  refine W_seq ?_
  refine W_region ?_
  refine L_yld (Y_move rfl) rfl rfl rfl ?_
  refine L_call (E_call (by kernel_rfl) rfl) (rec_Format _ hK hN hE w l hl (by first | first | omega | (simp only [Int.toNat_natCast, hf1, hrl]; omega) | (simp; omega) | rfl | (simp <;> omega)) (by first | first | omega | (simp only [Int.toNat_natCast, hf1, hrl]; omega) | (simp; omega) | rfl | (simp <;> omega))) rfl rfl rfl ?_
  rintro _ h1 ⟨s01, rfl, hr02, hx3⟩
  refine L_yld (Y_move rfl) rfl rfl rfl ?_
  refine L_yld (Y_extract (v := s01) rfl rfl) rfl rfl rfl ?_
  refine L_yld (Y_extract (v := .int .i64 (rlerr none l)) rfl rfl) rfl rfl rfl ?_
  refine L_yld (Y_assign rfl) rfl rfl rfl ?_
  refine L_yld (Y_assign rfl) rfl rfl rfl ?_
  refine L_nil ?_
  refine X_then ?_
  refine W_sub _ (.cons (i := 4) rfl (.cons (i := 3) rfl (.cons (i := 2) rfl (.cons (i := 0) rfl (.nil _))))) ?_
  refine W_seq ?_
  refine W_cut (S := Unit) (fun _ => [(27, .bool (decide (((50 < (l.length : Int)) ∨ (200000 < (rsum l : Int))) ∨ (¬ (rlerr none l) = 0)))), (3, s01), (2, .bool false), (0, w)]) (fun _ h' => Ext h1 h') ?_ ?_
  · refine W_region ?_
    refine L_yld (Y_move rfl) rfl rfl rfl ?_
    refine L_yld (Y_lenr Tryd.underlying22 rfl (hl.ext hx3)) rfl rfl rfl ?_
    refine L_yld (Y_gtr rfl rfl) rfl rfl rfl ?_
    refine L_yld (Y_move rfl) rfl rfl rfl ?_
    refine L_splitd (d := 19) rfl (fun c4 => ?_) (fun c4 => ?_)
    · refine L_skip rfl rfl rfl ?_
      refine L_skip rfl rfl rfl ?_
      refine L_skip rfl rfl rfl ?_
      refine L_yld (Y_pick_t rfl rfl) rfl rfl rfl ?_
      refine L_yld (Y_move rfl) rfl rfl rfl ?_
      refine L_skip rfl rfl rfl ?_
      refine L_skip rfl rfl rfl ?_
      refine L_yld (Y_pick_t rfl rfl) rfl rfl rfl ?_
      refine L_nil ?_
      exact X_cut () (.cons (i := 27) (lkb rfl (by simp only [eq_true c4, true_and, and_true, false_and, and_false, true_or, or_true, false_or, or_false, not_true_eq_false, not_false_eq_true, decide_true, decide_false, Bool.true_eq_false, Bool.false_eq_true, eq_self, Bool.decide_eq_true])) (.cons (i := 3) rfl (.cons (i := 2) rfl (.cons (i := 0) rfl (.nil _))))) (Ext.refl _)
    · refine L_yld (Y_move rfl) rfl rfl rfl ?_
      refine L_call (E_call (by kernel_rfl) rfl) (law09_size _ w l (hl.ext hx3) (by first | first | omega | (simp only [Int.toNat_natCast, hf1, hrl]; omega) | (simp; omega) | rfl | (simp <;> omega)) (by first | first | omega | (simp only [Int.toNat_natCast, hf1, hrl]; omega) | (simp; omega) | rfl | (simp <;> omega))) rfl rfl rfl ?_
      rintro _ h2 ⟨rfl, hx5⟩
      refine L_yld (Y_gtr rfl rfl) rfl rfl rfl ?_
      refine L_yld (Y_pick_f rfl rfl) rfl rfl rfl ?_
      refine L_yld (Y_move rfl) rfl rfl rfl ?_
      refine L_splitd (d := 24) rfl (fun c6 => ?_) (fun c6 => ?_)
      · refine L_skip rfl rfl rfl ?_
        refine L_skip rfl rfl rfl ?_
        refine L_yld (Y_pick_t rfl rfl) rfl rfl rfl ?_
        refine L_nil ?_
        exact X_cut () (.cons (i := 27) (lkb rfl (by simp only [eq_false c4, eq_true c6, true_and, and_true, false_and, and_false, true_or, or_true, false_or, or_false, not_true_eq_false, not_false_eq_true, decide_true, decide_false, Bool.true_eq_false, Bool.false_eq_true, eq_self, Bool.decide_eq_true])) (.cons (i := 3) rfl (.cons (i := 2) rfl (.cons (i := 0) rfl (.nil _))))) hx5
      · refine L_yld (Y_move rfl) rfl rfl rfl ?_
        refine L_yld (Y_neq rfl rfl) rfl rfl rfl ?_
        refine L_yld (Y_pick_f rfl rfl) rfl rfl rfl ?_
        refine L_nil ?_
        exact X_cut () (.cons (i := 27) (lkb rfl (by simp only [eq_false c4, eq_false c6, true_and, and_true, false_and, and_false, true_or, or_true, false_or, or_false, not_true_eq_false, not_false_eq_true, decide_true, decide_false, Bool.true_eq_false, Bool.false_eq_true, eq_self, Bool.decide_eq_true])) (.cons (i := 3) rfl (.cons (i := 2) rfl (.cons (i := 0) rfl (.nil _))))) hx5
  rintro _ h3 hx7
  show W _ _ _ _ _ [(27, .bool (decide (((50 < (l.length : Int)) ∨ (200000 < (rsum l : Int))) ∨ (¬ (rlerr none l) = 0)))), (3, s01), (2, .bool false), (0, w)] _
  refine W_splitd rfl (fun g => ?_) (fun g => ?_)
  · refine W_seq ?_
    refine W_region ?_
    refine L_call (E_call (by kernel_rfl) rfl) (law09_alive _ (hK.ext (hx3.trans hx7)) (hN.ext (hx3.trans hx7)) (hE.ext (hx3.trans hx7))) rfl rfl rfl ?_
    rintro _ h4 ⟨rfl, hx8⟩
    refine L_yld (Y_assign rfl) rfl rfl rfl ?_
    refine L_nil ?_
    refine X_then ?_
    refine W_sub _ (.cons (i := 2) rfl (.cons (i := 3) rfl (.cons (i := 0) rfl (.nil _)))) ?_
    refine W_ret ?_
    refine X_then_ret ?_
    refine X_ret1 rfl rfl ?_
    exact ⟨rfl, ((hx3.trans hx7).trans hx8)⟩
  · refine W_skip ?_
    refine X_then ?_
    refine W_sub _ (.cons (i := 3) rfl (.cons (i := 2) rfl (.cons (i := 0) rfl (.nil _)))) ?_
    have he0 : rlerr none l = 0 := Classical.byContradiction (fun h9 => g (.inr h9))
    refine W_seq ?_
    refine W_region ?_
    refine L_yld (Y_assign rfl) rfl rfl rfl ?_
    refine L_yld (Y_assign rfl) rfl rfl rfl ?_
    refine L_nil ?_
    refine X_then ?_
    refine W_seq ?_
    refine W_seq ?_
    refine W_region ?_
    refine L_yld (Y_move rfl) rfl rfl rfl ?_
    refine L_yld (Y_lenr Tryd.underlying22 rfl (hl.ext (hx3.trans hx7))) rfl rfl rfl ?_
    refine L_yld (Y_move rfl) rfl rfl rfl ?_
    refine L_nil ?_
    refine X_then ?_
    refine W_sub _ (.cons (i := 31) rfl (.cons (i := 30) rfl (.cons (i := 29) rfl (.cons (i := 6) rfl (.cons (i := 5) rfl (.cons (i := 3) rfl (.cons (i := 2) rfl (.nil _)))))))) ?_
    refine W_block ?_
    refine W_loop (S := Nat) (fun i => [(30, .int .i64 ((l.length : Int))), (29, w), (3, s01), (5, str ((l.take i).flatMap rone)), (6, .int .i64 (((((l.take i).flatMap rone).length : Nat) : Int))), (31, .int .i64 ((i : Int)))]) (fun i h' => i ≤ l.length ∧ Ext h3 h') (fun i => l.length - i) 0 (.cons (i := 30) rfl (.cons (i := 29) rfl (.cons (i := 3) rfl (.cons (i := 5) rfl (.cons (i := 6) rfl (.cons (i := 31) rfl (.nil _))))))) ?_ ?_
    · exact ⟨by omega, Ext.refl _⟩
    rintro i h5 ⟨hi, hx⟩
    show W _ _ _ _ _ [(30, .int .i64 ((l.length : Int))), (29, w), (3, s01), (5, str ((l.take i).flatMap rone)), (6, .int .i64 (((((l.take i).flatMap rone).length : Nat) : Int))), (31, .int .i64 ((i : Int)))] _
    refine W_seq ?_
    refine W_region ?_
    refine L_yld (Y_lss rfl rfl) rfl rfl rfl ?_
    refine L_nil ?_
    refine X_then ?_
    refine W_seq ?_
    refine W_splitd rfl (fun hlt => ?_) (fun hlt => ?_)
    · refine W_skip ?_
      refine X_then ?_
      refine W_sub _ (.cons (i := 30) rfl (.cons (i := 29) rfl (.cons (i := 3) rfl (.cons (i := 5) rfl (.cons (i := 6) rfl (.cons (i := 31) rfl (.nil _))))))) ?_
      refine W_seq ?_
      refine W_block ?_
      refine W_seq ?_
      refine W_region ?_
      refine L_yld (Y_idxr Tryd.underlying22 (show _ = some 2 by kernel_rfl) rfl rfl rfl (hl.ext ((hx3.trans hx7).trans hx)) (by first | omega | (simp only [Int.toNat_natCast, hf1, hrl]; omega) | (simp; omega)) (by first | omega | (simp only [Int.toNat_natCast, hf1, hrl]; omega) | (simp; omega))) rfl rfl rfl ?_
      refine L_yld (Y_ldrA0 (k := ((i : Int)).toNat) (us := [str ((at_rec l ((i : Int)).toNat).key), str ((at_rec l ((i : Int)).toNat).val)]) Tryd.underlying30 rfl (show _ = some 2 by kernel_rfl) rfl rfl (hl.ext ((hx3.trans hx7).trans hx)) (by first | omega | (simp only [Int.toNat_natCast, hf1, hrl]; omega) | (simp; omega)) rfl) rfl rfl rfl ?_
      refine L_mks (M_alloc (u := .agg #[str [], str []]) (by kernel_rfl)) rfl rfl rfl ?_
      rintro _ h6 ⟨rfl, hn9⟩
      have hk10 : Blk h6 h5.size [str [], str []] := hn9.blk
      refine L_dos (D_store (us := [str ((at_rec l ((i : Int)).toNat).key), str ((at_rec l ((i : Int)).toNat).val)]) (show _ = some 2 by kernel_rfl) rfl rfl rfl (by simp [Value.oneCell']) hk10 (by simp)) rfl rfl ?_
      rintro h7 hp11
      have hk12 : Blk h7 h5.size [str ((at_rec l ((i : Int)).toNat).key), str ((at_rec l ((i : Int)).toNat).val)] := hp11.blk
      refine L_nil ?_
      refine X_then ?_
      refine W_sub _ (.cons (i := 8) rfl (.cons (i := 30) rfl (.cons (i := 29) rfl (.cons (i := 3) rfl (.cons (i := 5) rfl (.cons (i := 6) rfl (.cons (i := 31) rfl (.nil _)))))))) ?_
      have hmm := hs _ (at_rec_mem (l := l) (i := i) (by omega))
      have hgo := rgood_of he0 (i := i) (by omega)
      have hol := hgo.out
      have h33 := hgo.three
      have hb0 := ((rgood_of he0 (i := i + 1) (by omega)).2 i (by omega)).1
      have hf1 : rfmt [⟨(at_rec l i).key, (at_rec l i).val⟩] = rone (at_rec l i) := rfmt_one hb0
      have hro := rone_len hb0
      have hrl := rone_length hb0
      have hr1 : rlerr none [⟨(at_rec l i).key, (at_rec l i).val⟩] = 0 := rlerr_one hb0
      refine W_seq ?_
      refine W_region ?_
      refine L_yld (Y_ldbox (us := [str ((at_rec l ((i : Int)).toNat).key), str ((at_rec l ((i : Int)).toNat).val)]) Tryd.underlying30 rfl (show _ = some 2 by kernel_rfl) rfl hk12 rfl) rfl rfl rfl ?_
      refine L_mks (M_litr (S := recS) (l := [⟨(at_rec l ((i : Int)).toNat).key, (at_rec l ((i : Int)).toNat).val⟩]) (cells := [str ((at_rec l ((i : Int)).toNat).key), str ((at_rec l ((i : Int)).toNat).val)]) (pv := [(0, .agg #[str ((at_rec l ((i : Int)).toNat).key), str ((at_rec l ((i : Int)).toNat).val)])]) (E := 30) (evp (is := [0]) (os := [.tmp 36]) (vs := [.agg #[str ((at_rec l ((i : Int)).toNat).key), str ((at_rec l ((i : Int)).toNat).val)]]) rfl rfl) rfl rfl (fun _ => by kernel_rfl) (by simp only [List.mem_cons, List.not_mem_nil, or_false, forall_eq_or_imp, forall_eq]; exact trivial)) rfl rfl rfl ?_
      rintro v13 h8 ⟨ho14, hx15⟩
      refine L_call (E_call (by kernel_rfl) rfl) (rec_Format _ (hK.ext (((((hx3.trans hx7).trans hx).trans hn9.ext).then' hp11.only (by simp) (Nat.le_trans (Nat.le_trans hx3.size hx7.size) hx.size)).trans hx15)) (hN.ext (((((hx3.trans hx7).trans hx).trans hn9.ext).then' hp11.only (by simp) (Nat.le_trans (Nat.le_trans hx3.size hx7.size) hx.size)).trans hx15)) (hE.ext (((((hx3.trans hx7).trans hx).trans hn9.ext).then' hp11.only (by simp) (Nat.le_trans (Nat.le_trans hx3.size hx7.size) hx.size)).trans hx15)) v13 [⟨(at_rec l ((i : Int)).toNat).key, (at_rec l ((i : Int)).toNat).val⟩] ho14.rows (by first | first | omega | (simp only [Int.toNat_natCast, hf1, hrl]; omega) | (simp; omega) | rfl | (simp <;> omega)) (by first | first | omega | (simp only [Int.toNat_natCast, hf1, hrl]; omega) | (simp; omega) | rfl | (simp <;> omega))) rfl rfl rfl ?_
      rintro _ h9 ⟨s016, rfl, hr017, hx18⟩
      refine L_yld (Y_move rfl) rfl rfl rfl ?_
      refine L_yld (Y_extract (v := s016) rfl rfl) rfl rfl rfl ?_
      refine L_yld (Y_extract (v := .int .i64 (rlerr none [⟨(at_rec l ((i : Int)).toNat).key, (at_rec l ((i : Int)).toNat).val⟩])) rfl rfl) rfl rfl rfl ?_
      refine L_yld (Y_assign rfl) rfl rfl rfl ?_
      refine L_yld (Y_assign rfl) rfl rfl rfl ?_
      refine L_nil ?_
      refine X_then ?_
      refine W_sub _ (.cons (i := 10) rfl (.cons (i := 9) rfl (.cons (i := 8) rfl (.cons (i := 30) rfl (.cons (i := 29) rfl (.cons (i := 3) rfl (.cons (i := 5) rfl (.cons (i := 6) rfl (.cons (i := 31) rfl (.nil _)))))))))) ?_
      refine W_seq ?_
      refine W_seq ?_
      refine W_region ?_
      refine L_yld (Y_move rfl) rfl rfl rfl ?_
      refine L_yld (Y_neq rfl rfl) rfl rfl rfl ?_
      refine L_yld (Y_move rfl) rfl rfl rfl ?_
      refine L_known (d := 43) false rfl (by exact decide_eq_false (by simp only [Int.toNat_natCast, hr1, not_true_eq_false, not_false_eq_true])) ?_
      refine L_yld (Y_move rfl) rfl rfl rfl ?_
      refine L_yld (Y_len Tryd.underlying23 rfl hr017.bytes) rfl rfl rfl ?_
      refine L_yld (Y_ldbox (us := [str ((at_rec l ((i : Int)).toNat).key), str ((at_rec l ((i : Int)).toNat).val)]) Tryd.underlying30 rfl (show _ = some 2 by kernel_rfl) rfl (hk12.ext (hx15.trans hx18)) rfl) rfl rfl rfl ?_
      refine L_call (E_call (by kernel_rfl) rfl) (rec_Size _ (hN.ext ((((((hx3.trans hx7).trans hx).trans hn9.ext).then' hp11.only (by simp) (Nat.le_trans (Nat.le_trans hx3.size hx7.size) hx.size)).trans hx15).trans hx18)) ((at_rec l ((i : Int)).toNat).key) ((at_rec l ((i : Int)).toNat).val) (by first | first | omega | (simp only [Int.toNat_natCast, hf1, hrl]; omega) | (simp; omega) | rfl | (simp <;> omega)) (by first | first | omega | (simp only [Int.toNat_natCast, hf1, hrl]; omega) | (simp; omega) | rfl | (simp <;> omega))) rfl rfl rfl ?_
      rintro _ h10 ⟨rfl, hx19⟩
      refine L_yld (Y_neq rfl rfl) rfl rfl rfl ?_
      refine L_yld (Y_pick_f rfl rfl) rfl rfl rfl ?_
      refine L_nil ?_
      refine X_then ?_
      refine W_sub _ (.cons (i := 49) rfl (.cons (i := 9) rfl (.cons (i := 8) rfl (.cons (i := 30) rfl (.cons (i := 29) rfl (.cons (i := 3) rfl (.cons (i := 5) rfl (.cons (i := 6) rfl (.cons (i := 31) rfl (.nil _)))))))))) ?_
      refine W_known false rfl (by exact decide_eq_false (by simp only [Int.toNat_natCast, hf1, hrl, not_true_eq_false, not_false_eq_true])) ?_
      refine W_skip ?_
      refine X_then ?_
      refine W_sub _ (.cons (i := 9) rfl (.cons (i := 8) rfl (.cons (i := 30) rfl (.cons (i := 29) rfl (.cons (i := 3) rfl (.cons (i := 5) rfl (.cons (i := 6) rfl (.cons (i := 31) rfl (.nil _))))))))) ?_
      refine W_seq ?_
      refine W_region ?_
      refine L_yld (Y_move rfl) rfl rfl rfl ?_
      refine L_yld (Y_move rfl) rfl rfl rfl ?_
      refine L_yld (Y_bytes_str Tryd.underlying23 Tryd.underlying5 Tryd.underlying9 rfl (hr017.bytes.ext hx19)) rfl rfl rfl ?_
      refine L_yld (Y_sadd rfl rfl (by first | first | omega | (simp only [Int.toNat_natCast, hf1, hrl]; omega) | (simp; omega) | (simp <;> omega))) rfl rfl rfl ?_
      refine L_yld (Y_assign rfl) rfl rfl rfl ?_
      refine L_nil ?_
      refine X_then ?_
      refine W_sub _ (.cons (i := 5) rfl (.cons (i := 8) rfl (.cons (i := 30) rfl (.cons (i := 29) rfl (.cons (i := 3) rfl (.cons (i := 6) rfl (.cons (i := 31) rfl (.nil _)))))))) ?_
      refine W_region ?_
      refine L_yld (Y_move rfl) rfl rfl rfl ?_
      refine L_yld (Y_ldbox (us := [str ((at_rec l ((i : Int)).toNat).key), str ((at_rec l ((i : Int)).toNat).val)]) Tryd.underlying30 rfl (show _ = some 2 by kernel_rfl) rfl (hk12.ext ((hx15.trans hx18).trans hx19)) rfl) rfl rfl rfl ?_
      refine L_call (E_call (by kernel_rfl) rfl) (rec_Size _ (hN.ext (((((((hx3.trans hx7).trans hx).trans hn9.ext).then' hp11.only (by simp) (Nat.le_trans (Nat.le_trans hx3.size hx7.size) hx.size)).trans hx15).trans hx18).trans hx19)) ((at_rec l ((i : Int)).toNat).key) ((at_rec l ((i : Int)).toNat).val) (by first | first | omega | (simp only [Int.toNat_natCast, hf1, hrl]; omega) | (simp; omega) | rfl | (simp <;> omega)) (by first | first | omega | (simp only [Int.toNat_natCast, hf1, hrl]; omega) | (simp; omega) | rfl | (simp <;> omega))) rfl rfl rfl ?_
      rintro _ h11 ⟨rfl, hx20⟩
      refine L_yld (Y_add rfl rfl (by first | omega | (simp only [Int.toNat_natCast, hf1, hrl]; omega) | (simp; omega)) (by first | omega | (simp only [Int.toNat_natCast, hf1, hrl]; omega) | (simp; omega))) rfl rfl rfl ?_
      refine L_yld (Y_assign rfl) rfl rfl rfl ?_
      refine L_nil ?_
      refine X_block ?_
      refine X_then ?_
      refine W_sub _ (.cons (i := 6) rfl (.cons (i := 5) rfl (.cons (i := 30) rfl (.cons (i := 29) rfl (.cons (i := 3) rfl (.cons (i := 31) rfl (.nil _))))))) ?_
      refine W_region ?_
      refine L_yld (Y_add rfl rfl (by first | omega | (simp only [Int.toNat_natCast, hf1, hrl]; omega) | (simp; omega)) (by first | omega | (simp only [Int.toNat_natCast, hf1, hrl]; omega) | (simp; omega))) rfl rfl rfl ?_
      refine L_yld (Y_move rfl) rfl rfl rfl ?_
      refine L_nil ?_
      refine X_loop (i + 1) (.cons (i := 30) rfl (.cons (i := 29) rfl (.cons (i := 3) rfl (.cons (i := 5) (lks rfl (by rw [take_rone (by omega)]; simp only [Int.toNat_natCast, hf1])) (.cons (i := 6) (lki rfl (by rw [take_rone (by omega), List.length_append, hrl]; simp only [Int.toNat_natCast]; omega)) (.cons (i := 31) rfl (.nil _))))))) ?_ ?_
      · exact ⟨by omega, ((((((hx.trans hn9.ext).then' hp11.only (by simp) hx.size).trans hx15).trans hx18).trans hx19).trans hx20)⟩
      · (try dsimp only)
        omega
    · refine W_exit ?_
      refine X_then_exit ?_
      refine X_then_exit ?_
      refine X_block_hit ?_
      refine X_then ?_
      refine W_sub _ (.cons (i := 3) rfl (.cons (i := 5) rfl (.cons (i := 6) rfl (.nil _)))) ?_
      have hi9 : i = l.length := by omega
      have hff : rfmt l = (l.take i).flatMap rone := by unfold rfmt; rw [if_pos he0, hi9, List.take_length]
      refine W_seq ?_
      refine W_region ?_
      refine L_call (E_call (by kernel_rfl) rfl) (law09_alive _ (hK.ext ((hx3.trans hx7).trans hx)) (hN.ext ((hx3.trans hx7).trans hx)) (hE.ext ((hx3.trans hx7).trans hx))) rfl rfl rfl ?_
      rintro _ h12 ⟨rfl, hx21⟩
      refine L_yld (Y_move rfl) rfl rfl rfl ?_
      refine L_yld (Y_move rfl) rfl rfl rfl ?_
      refine L_yld (Y_bytes_str Tryd.underlying23 Tryd.underlying5 Tryd.underlying9 rfl (hr02.bytes.ext ((hx7.trans hx).trans hx21))) rfl rfl rfl ?_
      refine L_yld (Y_move rfl) rfl rfl rfl ?_
      refine L_yld (Y_seql rfl rfl) rfl rfl rfl ?_
      refine L_yld (Y_pick_t rfl rfl) rfl rfl rfl ?_
      refine L_yld (Y_move rfl) rfl rfl rfl ?_
      refine L_known (d := 66) true rfl (by exact decide_eq_true (by exact hff)) ?_
      refine L_yld (Y_move rfl) rfl rfl rfl ?_
      refine L_yld (Y_len Tryd.underlying23 rfl (hr02.bytes.ext ((hx7.trans hx).trans hx21))) rfl rfl rfl ?_
      refine L_yld (Y_move rfl) rfl rfl rfl ?_
      refine L_yld (Y_eql rfl rfl) rfl rfl rfl ?_
      refine L_yld (Y_pick_t rfl rfl) rfl rfl rfl ?_
      refine L_yld (Y_assign rfl) rfl rfl rfl ?_
      refine L_nil ?_
      refine X_then ?_
      refine W_sub _ (.cons (i := 2) rfl (.nil _)) ?_
      refine W_ret ?_
      refine X_ret1 rfl rfl ?_
      exact ⟨congrArg Value.bool (decide_eq_true (by rw [hff])), (((hx3.trans hx7).trans hx).trans hx21)⟩
end Go.Xp
