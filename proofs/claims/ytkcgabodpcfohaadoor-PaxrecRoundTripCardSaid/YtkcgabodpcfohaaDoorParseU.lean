/- Layer 9 (paxrec): the law of the round trip. -/
import Derived.Test.YtkcgabodpcfohaaDoorParseT
set_option linter.unusedSimpArgs false
set_option linter.unusedVariables false
set_option linter.unusedSectionVars false
namespace Go.Xp
open Go.Proofs

theorem at_snoc (l : List Rec) (x : Rec) : at_rec (l ++ [x]) l.length = x := by
  rw [at_rec_eq (by simp), List.getElem_append_right (by omega)]; simp
theorem at_app {l m : List Rec} {k : Nat} (hk : k < l.length) : at_rec (l ++ m) k = at_rec l k := by
  rw [at_rec_eq (by rw [List.length_append]; omega), at_rec_eq hk, List.getElem_append_left hk]
theorem RGood.snoc {l : List Rec} {x : Rec} (hg : RGood l l.length) (hb : rerr x.key x.val = 0) (ho : 0 < l.length → sle x.key (at_rec l (l.length - 1)).key = false) : RGood (l ++ [x]) (l ++ [x]).length := by
  refine ⟨Nat.le_refl _, fun k hk => ?_⟩
  rw [List.length_append, List.length_singleton] at hk
  rcases Nat.lt_succ_iff_lt_or_eq.1 hk with h1 | rfl
  · rw [at_app h1]
    refine ⟨(hg.2 k h1).1, fun h0 => ?_⟩
    rw [at_app (show k - 1 < l.length by omega)]; exact (hg.2 k h1).2 h0
  · rw [at_snoc]
    refine ⟨hb, fun h0 => ?_⟩
    rw [at_app (show l.length - 1 < l.length by omega)]; exact ho h0
theorem perr3_zero {l : List Rec} {t : Rec × Int × Int} (h : perr3 l t = 0) : t.2.2 = 0 ∧ rerr t.1.key t.1.val = 0 ∧ (0 < l.length → sle t.1.key (at_rec l (l.length - 1)).key = false) := by
  unfold perr3 at h
  split at h
  · rename_i h1; exact absurd h h1
  · rename_i h1
    split at h
    · rename_i h2; exact absurd h h2
    · rename_i h2
      split at h
      · cases h
      · rename_i h3
        exact ⟨Classical.not_not.1 h1, Classical.not_not.1 h2, fun h0 => by rw [← Bool.not_eq_true]; exact fun e => h3 ⟨h0, e⟩⟩
theorem ploop_back : ∀ (f : Nat) (l : List Rec) (i : Nat) (b : List UInt8), RGood l l.length → i ≤ b.length → l.flatMap rone = b.take i → b.length < i + f → (ploop f l i b).2.2 = 0 → RGood (ploop f l i b).1 (ploop f l i b).1.length ∧ (ploop f l i b).1.flatMap rone = b ∧ (ploop f l i b).2.1 = b.length
  | 0, l, i, b, _, h1, _, h3, _ => by omega
  | f + 1, l, i, b, hg, h1, h2, h3, h4 => by
    by_cases hi : i < b.length
    · by_cases hp : perr3 l (ptake (b.drop i)) = 0
      · obtain ⟨p1, p2, p3⟩ := perr3_zero hp
        have hok := ptake_ok p1
        rw [List.length_drop] at hok
        have e : ploop (f + 1) l i b = ploop f (l ++ [(ptake (b.drop i)).1]) (i + (ptake (b.drop i)).2.1.toNat) b := by rw [ploop, if_pos hi, if_neg (by simpa using hp)]
        rw [e] at h4 ⊢
        refine ploop_back f _ _ b (hg.snoc p2 p3) (by omega) ?_ (by omega) h4
        rw [List.flatMap_append, h2, List.take_add, rone_of_ptake p1]; simp
      · exfalso
        rw [ploop, if_pos hi, if_pos hp] at h4
        exact hp h4
    · have e : ploop (f + 1) l i b = (l, (b.length : Int), 0) := by rw [ploop, if_neg hi]
      rw [e]
      exact ⟨hg, by rw [h2, List.take_of_length_le (by omega)], rfl⟩
theorem ploop_err : ∀ (f : Nat) (l : List Rec) (i : Nat) (b : List UInt8), i ≤ b.length → ¬ (ploop f l i b).2.2 = 0 → (ploop f l i b).1 = [] ∧ 0 ≤ (ploop f l i b).2.1 ∧ (ploop f l i b).2.1 ≤ b.length
  | 0, l, i, b, _, h => absurd rfl h
  | f + 1, l, i, b, h1, h => by
    by_cases hi : i < b.length
    · by_cases hp : perr3 l (ptake (b.drop i)) = 0
      · obtain ⟨p1, p2, p3⟩ := perr3_zero hp
        have hok := ptake_ok p1
        rw [List.length_drop] at hok
        have e : ploop (f + 1) l i b = ploop f (l ++ [(ptake (b.drop i)).1]) (i + (ptake (b.drop i)).2.1.toNat) b := by rw [ploop, if_pos hi, if_neg (by simpa using hp)]
        rw [e] at h ⊢
        exact ploop_err f _ _ b (by omega) h
      · have e : ploop (f + 1) l i b = ([], (i : Int), perr3 l (ptake (b.drop i))) := by rw [ploop, if_pos hi, if_pos hp]
        rw [e]; exact ⟨rfl, by show (0 : Int) ≤ i; omega, by show (i : Int) ≤ b.length; omega⟩
    · have e : ploop (f + 1) l i b = (l, (b.length : Int), 0) := by rw [ploop, if_neg hi]
      rw [e] at h; exact absurd rfl h
theorem ploop_fwd {d : List Rec} (hg : RGood d d.length) : ∀ (k i f : Nat), i + k = d.length → k < f → ploop f (d.take i) ((d.take i).flatMap rone).length (d.flatMap rone) = (d, ((d.flatMap rone).length : Int), 0)
  | 0, i, f, h, hf => by
    obtain ⟨f, rfl⟩ : ∃ g, f = g + 1 := ⟨f - 1, by omega⟩
    rw [List.take_of_length_le (by omega), ploop, if_neg (Nat.lt_irrefl _)]
  | k + 1, i, f, h, hf => by
    obtain ⟨f, rfl⟩ : ∃ g, f = g + 1 := ⟨f - 1, by omega⟩
    have hi : i < d.length := by omega
    obtain ⟨hb, ho⟩ := hg.2 i hi
    have hs : d.flatMap rone = (d.take i).flatMap rone ++ (rone (at_rec d i) ++ (d.drop (i + 1)).flatMap rone) := by
      conv => lhs; rw [← List.take_append_drop i d, drop_rec hi]
      rw [List.flatMap_append, List.flatMap_cons]
    have hdr : (d.flatMap rone).drop ((d.take i).flatMap rone).length = rone (at_rec d i) ++ (d.drop (i + 1)).flatMap rone := by
      rw [hs, List.drop_left]
    have hrl := rone_length hb
    have hpos : 1 ≤ psz (rrest (at_rec d i).key (at_rec d i).val) := by unfold psz rrest; omega
    have hp := ptake_rone hb ((d.drop (i + 1)).flatMap rone)
    have hpe : perr3 (d.take i) (at_rec d i, (psz (rrest (at_rec d i).key (at_rec d i).val) : Int), 0) = 0 := perr3_none rfl hb (fun h0 => by
      rw [List.length_take, Nat.min_eq_left (by omega)] at h0 ⊢
      have : at_rec (d.take i) (i - 1) = at_rec d (i - 1) := by
        rw [at_rec_eq (by rw [List.length_take]; omega), at_rec_eq (by omega), List.getElem_take]
      rw [this]; exact ho h0)
    rw [ploop, if_pos (by rw [hs, List.length_append, List.length_append]; omega), hdr, hp, hpe, if_neg (by simp)]
    have h1 : d.take i ++ [at_rec d i] = d.take (i + 1) := by rw [List.take_succ_eq_append_getElem hi, at_rec_eq hi]
    have h2 : ((d.take i).flatMap rone).length + (psz (rrest (at_rec d i).key (at_rec d i).val) : Int).toNat = ((d.take (i + 1)).flatMap rone).length := by
      rw [take_rone hi, List.length_append, hrl, Int.toNat_natCast]
    show ploop f (d.take i ++ [at_rec d i]) (((d.take i).flatMap rone).length + (psz (rrest (at_rec d i).key (at_rec d i).val) : Int).toNat) _ = _
    rw [h1, h2]
    exact ploop_fwd hg k (i + 1) f (by omega) (by omega)
theorem flat_lenR : ∀ d : List Rec, d.length ≤ (d.flatMap rone).length
  | [] => by simp
  | r :: d => by
    have := flat_lenR d
    rw [List.flatMap_cons, List.length_append, List.length_cons]
    have : 1 ≤ (rone r).length := by unfold rone; simp only [List.length_append, List.length_cons]; omega
    omega
theorem parse_fmt {d : List Rec} (h : rlerr none d = 0) (hl : (rfmt d).length ≤ 262144) : pres (rfmt d) = (d, ((rfmt d).length : Int), 0) := by
  have hf : rfmt d = d.flatMap rone := by unfold rfmt; rw [if_pos h]
  rw [pres, if_neg (by omega), hf]
  have := ploop_fwd (rgood_of h (Nat.le_refl _)) d.length 0 ((d.flatMap rone).length + 1) (by omega) (by have := flat_lenR d; omega)
  simpa using this
theorem pres_ne {t : List UInt8} (h : (pres t).2.2 = 0) : pres t = ploop (t.length + 1) [] 0 t := by
  unfold pres at h ⊢
  split
  · rename_i h1; rw [if_pos h1] at h; cases h
  · rfl
theorem fmt_parse {t : List UInt8} (h : (pres t).2.2 = 0) : rlerr none (pres t).1 = 0 ∧ rfmt (pres t).1 = t ∧ (pres t).2.1 = t.length := by
  have e := pres_ne h
  rw [e] at h ⊢
  obtain ⟨h1, h2, h3⟩ := ploop_back (t.length + 1) [] 0 t (RGood.zero []) (by omega) (by simp) (by omega) h
  have h4 := rlerr_all h1
  exact ⟨h4, by unfold rfmt; rw [if_pos h4]; exact h2, h3⟩
theorem pres_err {t : List UInt8} (h : ¬ (pres t).2.2 = 0) : (pres t).1 = [] ∧ 0 ≤ (pres t).2.1 ∧ (pres t).2.1 ≤ t.length := by
  unfold pres at h ⊢
  split
  · exact ⟨rfl, Int.le_refl _, by show (0 : Int) ≤ t.length; omega⟩
  · rename_i h1; rw [if_neg h1] at h
    exact ploop_err _ _ _ _ (by omega) h
theorem rec_small {l : List Rec} (h : rlerr none l = 0) : ∀ r ∈ l, r.key.length ≤ 140737488355328 ∧ r.val.length ≤ 140737488355328 := by
  intro r hr
  obtain ⟨i, hi, rfl⟩ := List.getElem_of_mem hr
  have := rerr_len ((rgood_of h (Nat.le_refl _)).2 i hi).1
  rw [at_rec_eq hi] at this
  omega

set_option maxRecDepth 100000 in
theorem paxrecRoundTrip (h : Heap) (hK : GlbK h) (hN : GlbN h) (hE : GlbE h) (w : Value) (d : List Rec) (hd : Rows recS h w d) (v : Value) (t9 : List UInt8) (ht : Bytes h v t9) (hn : d.length ≤ 140737488355328) (hs : ∀ r ∈ d, r.key.length ≤ 140737488355328 ∧ r.val.length ≤ 140737488355328) (hl : t9.length ≤ 140737488355328) : Cal Tryd.prog 14 #[w, v] h (fun v h' => v = .bool true ∧ Ext h h') := by
  refine Cal_enter (args := [w, v]) Tryd.func14 rfl rfl rfl (fun σ => ?_)
  refine W_seq ?_
  refine W_region ?_
  refine L_yld (Y_assign rfl) rfl rfl rfl ?_
  refine L_nil ?_
  refine X_then ?_
  refine W_seq ?_
  refine W_cut (S := Unit) (fun _ => [(27, .bool (decide (((50 < (d.length : Int)) ∨ (200000 < (rsum d : Int))) ∨ (270000 < (t9.length : Int))))), (4, .bool false), (0, w), (1, v)]) (fun _ h' => Ext h h') ?_ ?_
  · refine W_region ?_
    refine L_yld (Y_move rfl) rfl rfl rfl ?_
    refine L_yld (Y_lenr Tryd.underlying22 rfl hd) rfl rfl rfl ?_
    refine L_yld (Y_gtr rfl rfl) rfl rfl rfl ?_
    refine L_yld (Y_move rfl) rfl rfl rfl ?_
    refine L_splitd (d := 18) rfl (fun c1 => ?_) (fun c1 => ?_)
    · refine L_skip rfl rfl rfl ?_
      refine L_skip rfl rfl rfl ?_
      refine L_skip rfl rfl rfl ?_
      refine L_yld (Y_pick_t rfl rfl) rfl rfl rfl ?_
      refine L_yld (Y_move rfl) rfl rfl rfl ?_
      refine L_skip rfl rfl rfl ?_
      refine L_skip rfl rfl rfl ?_
      refine L_skip rfl rfl rfl ?_
      refine L_yld (Y_pick_t rfl rfl) rfl rfl rfl ?_
      refine L_nil ?_
      exact X_cut () (.cons (i := 27) (lkb rfl (by simp only [eq_true c1, true_and, and_true, false_and, and_false, true_or, or_true, false_or, or_false, not_true_eq_false, not_false_eq_true, decide_true, decide_false, Bool.true_eq_false, Bool.false_eq_true, eq_self, Bool.decide_eq_true])) (.cons (i := 4) rfl (.cons (i := 0) rfl (.cons (i := 1) rfl (.nil _))))) (Ext.refl _)
    · refine L_yld (Y_move rfl) rfl rfl rfl ?_
      refine L_call (E_call (by kernel_rfl) rfl) (law09_size _ w d hd (by first | omega | rfl | (simp <;> omega)) (by first | omega | rfl | (simp <;> omega))) rfl rfl rfl ?_
      rintro _ h1 ⟨rfl, hx2⟩
      refine L_yld (Y_gtr rfl rfl) rfl rfl rfl ?_
      refine L_yld (Y_pick_f rfl rfl) rfl rfl rfl ?_
      refine L_yld (Y_move rfl) rfl rfl rfl ?_
      refine L_splitd (d := 23) rfl (fun c3 => ?_) (fun c3 => ?_)
      · refine L_skip rfl rfl rfl ?_
        refine L_skip rfl rfl rfl ?_
        refine L_skip rfl rfl rfl ?_
        refine L_yld (Y_pick_t rfl rfl) rfl rfl rfl ?_
        refine L_nil ?_
        exact X_cut () (.cons (i := 27) (lkb rfl (by simp only [eq_false c1, eq_true c3, true_and, and_true, false_and, and_false, true_or, or_true, false_or, or_false, not_true_eq_false, not_false_eq_true, decide_true, decide_false, Bool.true_eq_false, Bool.false_eq_true, eq_self, Bool.decide_eq_true])) (.cons (i := 4) rfl (.cons (i := 0) rfl (.cons (i := 1) rfl (.nil _))))) hx2
      · refine L_yld (Y_move rfl) rfl rfl rfl ?_
        refine L_yld (Y_len Tryd.underlying23 rfl (ht.ext hx2)) rfl rfl rfl ?_
        refine L_yld (Y_gtr rfl rfl) rfl rfl rfl ?_
        refine L_yld (Y_pick_f rfl rfl) rfl rfl rfl ?_
        refine L_nil ?_
        exact X_cut () (.cons (i := 27) (lkb rfl (by simp only [eq_false c1, eq_false c3, true_and, and_true, false_and, and_false, true_or, or_true, false_or, or_false, not_true_eq_false, not_false_eq_true, decide_true, decide_false, Bool.true_eq_false, Bool.false_eq_true, eq_self, Bool.decide_eq_true])) (.cons (i := 4) rfl (.cons (i := 0) rfl (.cons (i := 1) rfl (.nil _))))) hx2
  rintro _ h2 hx4
  show W _ _ _ _ _ [(27, .bool (decide (((50 < (d.length : Int)) ∨ (200000 < (rsum d : Int))) ∨ (270000 < (t9.length : Int))))), (4, .bool false), (0, w), (1, v)] _
  refine W_splitd rfl (fun g => ?_) (fun g => ?_)
  · refine W_seq ?_
    refine W_region ?_
    refine L_call (E_call (by kernel_rfl) rfl) (law09_alive _ (hK.ext hx4) (hN.ext hx4) (hE.ext hx4)) rfl rfl rfl ?_
    rintro _ h3 ⟨rfl, hx5⟩
    refine L_yld (Y_assign rfl) rfl rfl rfl ?_
    refine L_nil ?_
    refine X_then ?_
    refine W_sub _ (.cons (i := 4) rfl (.cons (i := 0) rfl (.cons (i := 1) rfl (.nil _)))) ?_
    refine W_ret ?_
    refine X_then_ret ?_
    refine X_ret1 rfl rfl ?_
    exact ⟨rfl, (hx4.trans hx5)⟩
  · refine W_skip ?_
    refine X_then ?_
    refine W_sub _ (.cons (i := 4) rfl (.cons (i := 0) rfl (.cons (i := 1) rfl (.nil _)))) ?_
    refine W_seq ?_
    refine W_seq ?_
    refine W_region ?_
    refine L_yld (Y_move rfl) rfl rfl rfl ?_
    refine L_call (E_call (by kernel_rfl) rfl) (rec_Format _ (hK.ext hx4) (hN.ext hx4) (hE.ext hx4) w d (hd.ext hx4) (by first | omega | rfl | (simp <;> omega)) (by first | omega | rfl | (simp <;> omega))) rfl rfl rfl ?_
    rintro _ h4 ⟨s06, rfl, hr07, hx8⟩
    refine L_yld (Y_move rfl) rfl rfl rfl ?_
    refine L_yld (Y_extract (v := s06) rfl rfl) rfl rfl rfl ?_
    refine L_yld (Y_extract (v := .int .i64 (rlerr none d)) rfl rfl) rfl rfl rfl ?_
    refine L_yld (Y_assign rfl) rfl rfl rfl ?_
    refine L_yld (Y_assign rfl) rfl rfl rfl ?_
    refine L_nil ?_
    refine X_then ?_
    refine W_sub _ (.cons (i := 6) rfl (.cons (i := 5) rfl (.cons (i := 4) rfl (.cons (i := 0) rfl (.cons (i := 1) rfl (.nil _)))))) ?_
    refine W_cut (S := Unit) (fun _ => [(40, .bool (decide (((rlerr none d) = 0) ∧ (((rfmt d).length : Int) ≤ 262144)))), (5, s06), (4, .bool false), (0, w), (1, v)]) (fun _ h' => h' = h4) ?_ ?_
    · refine W_region ?_
      refine L_yld (Y_move rfl) rfl rfl rfl ?_
      refine L_yld (Y_eql rfl rfl) rfl rfl rfl ?_
      refine L_yld (Y_move rfl) rfl rfl rfl ?_
      refine L_splitd (d := 36) rfl (fun c9 => ?_) (fun c9 => ?_)
      · refine L_yld (Y_move rfl) rfl rfl rfl ?_
        refine L_yld (Y_len Tryd.underlying23 rfl hr07.bytes) rfl rfl rfl ?_
        refine L_yld (Y_leq rfl rfl) rfl rfl rfl ?_
        refine L_yld (Y_pick_t rfl rfl) rfl rfl rfl ?_
        refine L_nil ?_
        exact X_cut () (.cons (i := 40) (lkb rfl (by simp only [eq_true c9, true_and, and_true, false_and, and_false, true_or, or_true, false_or, or_false, not_true_eq_false, not_false_eq_true, decide_true, decide_false, Bool.true_eq_false, Bool.false_eq_true, eq_self, Bool.decide_eq_true])) (.cons (i := 5) rfl (.cons (i := 4) rfl (.cons (i := 0) rfl (.cons (i := 1) rfl (.nil _)))))) rfl
      · refine L_skip rfl rfl rfl ?_
        refine L_skip rfl rfl rfl ?_
        refine L_skip rfl rfl rfl ?_
        refine L_yld (Y_pick_f rfl rfl) rfl rfl rfl ?_
        refine L_nil ?_
        exact X_cut () (.cons (i := 40) (lkb rfl (by simp only [eq_false c9, true_and, and_true, false_and, and_false, true_or, or_true, false_or, or_false, not_true_eq_false, not_false_eq_true, decide_true, decide_false, Bool.true_eq_false, Bool.false_eq_true, eq_self, Bool.decide_eq_true])) (.cons (i := 5) rfl (.cons (i := 4) rfl (.cons (i := 0) rfl (.cons (i := 1) rfl (.nil _)))))) rfl
    rintro _ h4 rfl
    show W _ _ _ _ _ [(40, .bool (decide (((rlerr none d) = 0) ∧ (((rfmt d).length : Int) ≤ 262144)))), (5, s06), (4, .bool false), (0, w), (1, v)] _
    refine W_splitd rfl (fun o => ?_) (fun o => ?_)
    · refine W_seq ?_
      refine W_region ?_
      refine L_yld (Y_move rfl) rfl rfl rfl ?_
      refine L_call (E_call (by kernel_rfl) rfl) (rec_Parse _ (hK.ext (hx4.trans hx8)) (hN.ext (hx4.trans hx8)) (hE.ext (hx4.trans hx8)) s06 (rfmt d) hr07.bytes (by first | omega | rfl | (simp <;> omega))) rfl rfl rfl ?_
      rintro _ h5 ⟨s010, rfl, hr011, hx12⟩
      refine L_yld (Y_move rfl) rfl rfl rfl ?_
      refine L_yld (Y_extract (v := s010) rfl rfl) rfl rfl rfl ?_
      refine L_yld (Y_extract (v := .int .i64 ((pres (rfmt d)).2.1)) rfl rfl) rfl rfl rfl ?_
      refine L_yld (Y_extract (v := .int .i64 ((pres (rfmt d)).2.2)) rfl rfl) rfl rfl rfl ?_
      refine L_yld (Y_assign rfl) rfl rfl rfl ?_
      refine L_yld (Y_assign rfl) rfl rfl rfl ?_
      refine L_yld (Y_assign rfl) rfl rfl rfl ?_
      refine L_nil ?_
      refine X_then ?_
      refine W_sub _ (.cons (i := 9) rfl (.cons (i := 8) rfl (.cons (i := 7) rfl (.cons (i := 5) rfl (.cons (i := 4) rfl (.cons (i := 0) rfl (.cons (i := 1) rfl (.nil _)))))))) ?_
      have hpf := parse_fmt o.1 (by omega)
      refine W_seq ?_
      refine W_region ?_
      refine L_yld (Y_move rfl) rfl rfl rfl ?_
      refine L_yld (Y_neq rfl rfl) rfl rfl rfl ?_
      refine L_yld (Y_move rfl) rfl rfl rfl ?_
      refine L_known (d := 49) false rfl (by exact decide_eq_false (by simp [hpf])) ?_
      refine L_yld (Y_move rfl) rfl rfl rfl ?_
      refine L_yld (Y_move rfl) rfl rfl rfl ?_
      refine L_yld (Y_len Tryd.underlying23 rfl (hr07.bytes.ext hx12)) rfl rfl rfl ?_
      refine L_yld (Y_neq rfl rfl) rfl rfl rfl ?_
      refine L_yld (Y_pick_f rfl rfl) rfl rfl rfl ?_
      refine L_yld (Y_move rfl) rfl rfl rfl ?_
      refine L_known (d := 55) false rfl (by exact decide_eq_false (by simp [hpf])) ?_
      refine L_yld (Y_move rfl) rfl rfl rfl ?_
      refine L_yld (Y_move rfl) rfl rfl rfl ?_
      refine L_call (E_call (by kernel_rfl) rfl) (slices_EqualR _ w d (hd.ext ((hx4.trans hx8).trans hx12)) s010 ((pres (rfmt d)).1) hr011.rows (by first | omega | rfl | (simp <;> omega))) rfl rfl rfl ?_
      rintro _ h5 ⟨rfl, rfl⟩
      refine L_yld (Y_notd rfl) rfl rfl rfl ?_
      refine L_yld (Y_pick_f rfl rfl) rfl rfl rfl ?_
      refine L_nil ?_
      refine X_then ?_
      refine W_sub _ (.cons (i := 60) rfl (.cons (i := 4) rfl (.cons (i := 1) rfl (.nil _)))) ?_
      refine W_known false rfl (by exact decide_eq_false (by simp [hpf])) ?_
      refine W_skip ?_
      refine X_then ?_
      refine W_sub _ (.cons (i := 4) rfl (.cons (i := 1) rfl (.nil _))) ?_
      refine W_seq ?_
      refine W_region ?_
      refine L_yld (Y_move rfl) rfl rfl rfl ?_
      refine L_call (E_call (by kernel_rfl) rfl) (rec_Parse _ (hK.ext ((hx4.trans hx8).trans hx12)) (hN.ext ((hx4.trans hx8).trans hx12)) (hE.ext ((hx4.trans hx8).trans hx12)) v t9 (ht.ext ((hx4.trans hx8).trans hx12)) (by first | omega | rfl | (simp <;> omega))) rfl rfl rfl ?_
      rintro _ h6 ⟨s013, rfl, hr014, hx15⟩
      refine L_yld (Y_move rfl) rfl rfl rfl ?_
      refine L_yld (Y_extract (v := s013) rfl rfl) rfl rfl rfl ?_
      refine L_yld (Y_extract (v := .int .i64 ((pres t9).2.1)) rfl rfl) rfl rfl rfl ?_
      refine L_yld (Y_extract (v := .int .i64 ((pres t9).2.2)) rfl rfl) rfl rfl rfl ?_
      refine L_yld (Y_assign rfl) rfl rfl rfl ?_
      refine L_yld (Y_assign rfl) rfl rfl rfl ?_
      refine L_yld (Y_assign rfl) rfl rfl rfl ?_
      refine L_nil ?_
      refine X_then ?_
      refine W_sub _ (.cons (i := 12) rfl (.cons (i := 11) rfl (.cons (i := 10) rfl (.cons (i := 4) rfl (.cons (i := 1) rfl (.nil _)))))) ?_
      refine W_seq ?_
      refine W_seq ?_
      refine W_region ?_
      refine L_yld (Y_move rfl) rfl rfl rfl ?_
      refine L_yld (Y_neq rfl rfl) rfl rfl rfl ?_
      refine L_nil ?_
      refine X_then ?_
      refine W_sub _ (.cons (i := 68) rfl (.cons (i := 11) rfl (.cons (i := 10) rfl (.cons (i := 4) rfl (.cons (i := 1) rfl (.nil _)))))) ?_
      refine W_splitd rfl (fun x => ?_) (fun x => ?_)
      · refine W_seq ?_
        refine W_region ?_
        refine L_call (E_call (by kernel_rfl) rfl) (law09_alive _ (hK.ext (((hx4.trans hx8).trans hx12).trans hx15)) (hN.ext (((hx4.trans hx8).trans hx12).trans hx15)) (hE.ext (((hx4.trans hx8).trans hx12).trans hx15))) rfl rfl rfl ?_
        rintro _ h7 ⟨rfl, hx16⟩
        refine L_yld (Y_move rfl) rfl rfl rfl ?_
        refine L_yld (Y_move rfl) rfl rfl rfl ?_
        refine L_yld (Y_lenr Tryd.underlying22 rfl (hr014.rows.ext hx16)) rfl rfl rfl ?_
        refine L_yld (Y_eql rfl rfl) rfl rfl rfl ?_
        refine L_yld (Y_pick_t rfl rfl) rfl rfl rfl ?_
        refine L_yld (Y_move rfl) rfl rfl rfl ?_
        refine L_known (d := 75) true rfl (by exact decide_eq_true (by rw [(pres_err x).1]; rfl)) ?_
        refine L_yld (Y_move rfl) rfl rfl rfl ?_
        refine L_yld (Y_geq rfl rfl) rfl rfl rfl ?_
        refine L_yld (Y_pick_t rfl rfl) rfl rfl rfl ?_
        refine L_yld (Y_move rfl) rfl rfl rfl ?_
        refine L_known (d := 79) true rfl (by exact decide_eq_true (by exact (pres_err x).2.1)) ?_
        refine L_yld (Y_move rfl) rfl rfl rfl ?_
        refine L_yld (Y_move rfl) rfl rfl rfl ?_
        refine L_yld (Y_len Tryd.underlying23 rfl (ht.ext ((((hx4.trans hx8).trans hx12).trans hx15).trans hx16))) rfl rfl rfl ?_
        refine L_yld (Y_leq rfl rfl) rfl rfl rfl ?_
        refine L_yld (Y_pick_t rfl rfl) rfl rfl rfl ?_
        refine L_yld (Y_assign rfl) rfl rfl rfl ?_
        refine L_nil ?_
        refine X_then ?_
        refine W_sub _ (.cons (i := 4) rfl (.cons (i := 11) rfl (.cons (i := 10) rfl (.cons (i := 1) rfl (.nil _))))) ?_
        refine W_ret ?_
        refine X_then_ret ?_
        refine X_ret1 rfl rfl ?_
        exact ⟨congrArg Value.bool (decide_eq_true (pres_err x).2.2), ((((hx4.trans hx8).trans hx12).trans hx15).trans hx16)⟩
      · refine W_skip ?_
        refine X_then ?_
        refine W_sub _ (.cons (i := 11) rfl (.cons (i := 10) rfl (.cons (i := 4) rfl (.cons (i := 1) rfl (.nil _))))) ?_
        have x0 : (pres t9).2.2 = 0 := Classical.not_not.1 x
        have fp := fmt_parse x0
        have hall : ∀ r ∈ (pres t9).1, r.key.length ≤ 140737488355328 ∧ r.val.length ≤ 140737488355328 := rec_small fp.1
        refine W_seq ?_
        refine W_region ?_
        refine L_yld (Y_move rfl) rfl rfl rfl ?_
        refine L_call (E_call (by kernel_rfl) rfl) (rec_Format _ (hK.ext (((hx4.trans hx8).trans hx12).trans hx15)) (hN.ext (((hx4.trans hx8).trans hx12).trans hx15)) (hE.ext (((hx4.trans hx8).trans hx12).trans hx15)) s013 ((pres t9).1) hr014.rows (Nat.le_trans (pres_len _) (by decide)) hall) rfl rfl rfl ?_
        rintro _ h8 ⟨s017, rfl, hr018, hx19⟩
        refine L_yld (Y_move rfl) rfl rfl rfl ?_
        refine L_yld (Y_extract (v := s017) rfl rfl) rfl rfl rfl ?_
        refine L_yld (Y_extract (v := .int .i64 (rlerr none ((pres t9).1))) rfl rfl) rfl rfl rfl ?_
        refine L_yld (Y_assign rfl) rfl rfl rfl ?_
        refine L_yld (Y_assign rfl) rfl rfl rfl ?_
        refine L_nil ?_
        refine X_then ?_
        refine W_sub _ (.cons (i := 14) rfl (.cons (i := 13) rfl (.cons (i := 11) rfl (.cons (i := 4) rfl (.cons (i := 1) rfl (.nil _)))))) ?_
        refine W_seq ?_
        refine W_region ?_
        refine L_call (E_call (by kernel_rfl) rfl) (law09_alive _ (hK.ext ((((hx4.trans hx8).trans hx12).trans hx15).trans hx19)) (hN.ext ((((hx4.trans hx8).trans hx12).trans hx15).trans hx19)) (hE.ext ((((hx4.trans hx8).trans hx12).trans hx15).trans hx19))) rfl rfl rfl ?_
        rintro _ h9 ⟨rfl, hx20⟩
        refine L_yld (Y_move rfl) rfl rfl rfl ?_
        refine L_yld (Y_move rfl) rfl rfl rfl ?_
        refine L_yld (Y_eql rfl rfl) rfl rfl rfl ?_
        refine L_yld (Y_pick_t rfl rfl) rfl rfl rfl ?_
        refine L_yld (Y_move rfl) rfl rfl rfl ?_
        refine L_known (d := 95) true rfl (by exact decide_eq_true (by exact fp.1)) ?_
        refine L_yld (Y_move rfl) rfl rfl rfl ?_
        refine L_yld (Y_move rfl) rfl rfl rfl ?_
        refine L_yld (Y_len Tryd.underlying23 rfl (ht.ext (((((hx4.trans hx8).trans hx12).trans hx15).trans hx19).trans hx20))) rfl rfl rfl ?_
        refine L_yld (Y_eql rfl rfl) rfl rfl rfl ?_
        refine L_yld (Y_pick_t rfl rfl) rfl rfl rfl ?_
        refine L_yld (Y_move rfl) rfl rfl rfl ?_
        refine L_known (d := 101) true rfl (by exact decide_eq_true (by exact fp.2.2)) ?_
        refine L_yld (Y_move rfl) rfl rfl rfl ?_
        refine L_yld (Y_bytes_str Tryd.underlying23 Tryd.underlying5 Tryd.underlying9 rfl (hr018.bytes.ext hx20)) rfl rfl rfl ?_
        refine L_yld (Y_move rfl) rfl rfl rfl ?_
        refine L_yld (Y_bytes_str Tryd.underlying23 Tryd.underlying5 Tryd.underlying9 rfl (ht.ext (((((hx4.trans hx8).trans hx12).trans hx15).trans hx19).trans hx20))) rfl rfl rfl ?_
        refine L_yld (Y_seql rfl rfl) rfl rfl rfl ?_
        refine L_yld (Y_pick_t rfl rfl) rfl rfl rfl ?_
        refine L_yld (Y_assign rfl) rfl rfl rfl ?_
        refine L_nil ?_
        refine X_then ?_
        refine W_sub _ (.cons (i := 4) rfl (.nil _)) ?_
        refine W_ret ?_
        refine X_ret1 rfl rfl ?_
        exact ⟨congrArg Value.bool (decide_eq_true fp.2.1), (((((hx4.trans hx8).trans hx12).trans hx15).trans hx19).trans hx20)⟩
    · refine W_skip ?_
      refine X_then ?_
      refine W_sub _ (.cons (i := 4) rfl (.cons (i := 1) rfl (.nil _))) ?_
      refine W_seq ?_
      refine W_region ?_
      refine L_yld (Y_move rfl) rfl rfl rfl ?_
      refine L_call (E_call (by kernel_rfl) rfl) (rec_Parse _ (hK.ext (hx4.trans hx8)) (hN.ext (hx4.trans hx8)) (hE.ext (hx4.trans hx8)) v t9 (ht.ext (hx4.trans hx8)) (by first | omega | rfl | (simp <;> omega))) rfl rfl rfl ?_
      rintro _ h10 ⟨s021, rfl, hr022, hx23⟩
      refine L_yld (Y_move rfl) rfl rfl rfl ?_
      refine L_yld (Y_extract (v := s021) rfl rfl) rfl rfl rfl ?_
      refine L_yld (Y_extract (v := .int .i64 ((pres t9).2.1)) rfl rfl) rfl rfl rfl ?_
      refine L_yld (Y_extract (v := .int .i64 ((pres t9).2.2)) rfl rfl) rfl rfl rfl ?_
      refine L_yld (Y_assign rfl) rfl rfl rfl ?_
      refine L_yld (Y_assign rfl) rfl rfl rfl ?_
      refine L_yld (Y_assign rfl) rfl rfl rfl ?_
      refine L_nil ?_
      refine X_then ?_
      refine W_sub _ (.cons (i := 12) rfl (.cons (i := 11) rfl (.cons (i := 10) rfl (.cons (i := 4) rfl (.cons (i := 1) rfl (.nil _)))))) ?_
      refine W_seq ?_
      refine W_seq ?_
      refine W_region ?_
      refine L_yld (Y_move rfl) rfl rfl rfl ?_
      refine L_yld (Y_neq rfl rfl) rfl rfl rfl ?_
      refine L_nil ?_
      refine X_then ?_
      refine W_sub _ (.cons (i := 68) rfl (.cons (i := 11) rfl (.cons (i := 10) rfl (.cons (i := 4) rfl (.cons (i := 1) rfl (.nil _)))))) ?_
      refine W_splitd rfl (fun x => ?_) (fun x => ?_)
      · refine W_seq ?_
        refine W_region ?_
        refine L_call (E_call (by kernel_rfl) rfl) (law09_alive _ (hK.ext ((hx4.trans hx8).trans hx23)) (hN.ext ((hx4.trans hx8).trans hx23)) (hE.ext ((hx4.trans hx8).trans hx23))) rfl rfl rfl ?_
        rintro _ h11 ⟨rfl, hx24⟩
        refine L_yld (Y_move rfl) rfl rfl rfl ?_
        refine L_yld (Y_move rfl) rfl rfl rfl ?_
        refine L_yld (Y_lenr Tryd.underlying22 rfl (hr022.rows.ext hx24)) rfl rfl rfl ?_
        refine L_yld (Y_eql rfl rfl) rfl rfl rfl ?_
        refine L_yld (Y_pick_t rfl rfl) rfl rfl rfl ?_
        refine L_yld (Y_move rfl) rfl rfl rfl ?_
        refine L_known (d := 75) true rfl (by exact decide_eq_true (by rw [(pres_err x).1]; rfl)) ?_
        refine L_yld (Y_move rfl) rfl rfl rfl ?_
        refine L_yld (Y_geq rfl rfl) rfl rfl rfl ?_
        refine L_yld (Y_pick_t rfl rfl) rfl rfl rfl ?_
        refine L_yld (Y_move rfl) rfl rfl rfl ?_
        refine L_known (d := 79) true rfl (by exact decide_eq_true (by exact (pres_err x).2.1)) ?_
        refine L_yld (Y_move rfl) rfl rfl rfl ?_
        refine L_yld (Y_move rfl) rfl rfl rfl ?_
        refine L_yld (Y_len Tryd.underlying23 rfl (ht.ext (((hx4.trans hx8).trans hx23).trans hx24))) rfl rfl rfl ?_
        refine L_yld (Y_leq rfl rfl) rfl rfl rfl ?_
        refine L_yld (Y_pick_t rfl rfl) rfl rfl rfl ?_
        refine L_yld (Y_assign rfl) rfl rfl rfl ?_
        refine L_nil ?_
        refine X_then ?_
        refine W_sub _ (.cons (i := 4) rfl (.cons (i := 11) rfl (.cons (i := 10) rfl (.cons (i := 1) rfl (.nil _))))) ?_
        refine W_ret ?_
        refine X_then_ret ?_
        refine X_ret1 rfl rfl ?_
        exact ⟨congrArg Value.bool (decide_eq_true (pres_err x).2.2), (((hx4.trans hx8).trans hx23).trans hx24)⟩
      · refine W_skip ?_
        refine X_then ?_
        refine W_sub _ (.cons (i := 11) rfl (.cons (i := 10) rfl (.cons (i := 4) rfl (.cons (i := 1) rfl (.nil _))))) ?_
        have x0 : (pres t9).2.2 = 0 := Classical.not_not.1 x
        have fp := fmt_parse x0
        have hall : ∀ r ∈ (pres t9).1, r.key.length ≤ 140737488355328 ∧ r.val.length ≤ 140737488355328 := rec_small fp.1
        refine W_seq ?_
        refine W_region ?_
        refine L_yld (Y_move rfl) rfl rfl rfl ?_
        refine L_call (E_call (by kernel_rfl) rfl) (rec_Format _ (hK.ext ((hx4.trans hx8).trans hx23)) (hN.ext ((hx4.trans hx8).trans hx23)) (hE.ext ((hx4.trans hx8).trans hx23)) s021 ((pres t9).1) hr022.rows (Nat.le_trans (pres_len _) (by decide)) hall) rfl rfl rfl ?_
        rintro _ h12 ⟨s025, rfl, hr026, hx27⟩
        refine L_yld (Y_move rfl) rfl rfl rfl ?_
        refine L_yld (Y_extract (v := s025) rfl rfl) rfl rfl rfl ?_
        refine L_yld (Y_extract (v := .int .i64 (rlerr none ((pres t9).1))) rfl rfl) rfl rfl rfl ?_
        refine L_yld (Y_assign rfl) rfl rfl rfl ?_
        refine L_yld (Y_assign rfl) rfl rfl rfl ?_
        refine L_nil ?_
        refine X_then ?_
        refine W_sub _ (.cons (i := 14) rfl (.cons (i := 13) rfl (.cons (i := 11) rfl (.cons (i := 4) rfl (.cons (i := 1) rfl (.nil _)))))) ?_
        refine W_seq ?_
        refine W_region ?_
        refine L_call (E_call (by kernel_rfl) rfl) (law09_alive _ (hK.ext (((hx4.trans hx8).trans hx23).trans hx27)) (hN.ext (((hx4.trans hx8).trans hx23).trans hx27)) (hE.ext (((hx4.trans hx8).trans hx23).trans hx27))) rfl rfl rfl ?_
        rintro _ h13 ⟨rfl, hx28⟩
        refine L_yld (Y_move rfl) rfl rfl rfl ?_
        refine L_yld (Y_move rfl) rfl rfl rfl ?_
        refine L_yld (Y_eql rfl rfl) rfl rfl rfl ?_
        refine L_yld (Y_pick_t rfl rfl) rfl rfl rfl ?_
        refine L_yld (Y_move rfl) rfl rfl rfl ?_
        refine L_known (d := 95) true rfl (by exact decide_eq_true (by exact fp.1)) ?_
        refine L_yld (Y_move rfl) rfl rfl rfl ?_
        refine L_yld (Y_move rfl) rfl rfl rfl ?_
        refine L_yld (Y_len Tryd.underlying23 rfl (ht.ext ((((hx4.trans hx8).trans hx23).trans hx27).trans hx28))) rfl rfl rfl ?_
        refine L_yld (Y_eql rfl rfl) rfl rfl rfl ?_
        refine L_yld (Y_pick_t rfl rfl) rfl rfl rfl ?_
        refine L_yld (Y_move rfl) rfl rfl rfl ?_
        refine L_known (d := 101) true rfl (by exact decide_eq_true (by exact fp.2.2)) ?_
        refine L_yld (Y_move rfl) rfl rfl rfl ?_
        refine L_yld (Y_bytes_str Tryd.underlying23 Tryd.underlying5 Tryd.underlying9 rfl (hr026.bytes.ext hx28)) rfl rfl rfl ?_
        refine L_yld (Y_move rfl) rfl rfl rfl ?_
        refine L_yld (Y_bytes_str Tryd.underlying23 Tryd.underlying5 Tryd.underlying9 rfl (ht.ext ((((hx4.trans hx8).trans hx23).trans hx27).trans hx28))) rfl rfl rfl ?_
        refine L_yld (Y_seql rfl rfl) rfl rfl rfl ?_
        refine L_yld (Y_pick_t rfl rfl) rfl rfl rfl ?_
        refine L_yld (Y_assign rfl) rfl rfl rfl ?_
        refine L_nil ?_
        refine X_then ?_
        refine W_sub _ (.cons (i := 4) rfl (.nil _)) ?_
        refine W_ret ?_
        refine X_ret1 rfl rfl ?_
        exact ⟨congrArg Value.bool (decide_eq_true fp.2.1), ((((hx4.trans hx8).trans hx23).trans hx27).trans hx28)⟩
end Go.Xp
