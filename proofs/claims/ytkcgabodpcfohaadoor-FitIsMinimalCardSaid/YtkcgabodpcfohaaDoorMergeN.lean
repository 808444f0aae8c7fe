/- Layer 10 (fit): the law that records are as few as can be. -/
import Derived.Test.YtkcgabodpcfohaaDoorMergeM
import Derived.Test.YtkcgabodpcfohaaDoorAppE
set_option linter.unusedSimpArgs false
set_option linter.unusedVariables false
set_option linter.unusedSectionVars false
namespace Go.Xp
open Go.Proofs

theorem nDigits_le_succ : ∀ u : Nat, Lib.nDigits u ≤ u + 1 := by
  intro u
  induction u using Nat.strongRecOn with
  | ind u ih =>
    rcases Nat.lt_or_ge u 10 with h | h
    · rw [Lib.nDigits_small h]; omega
    · rw [Lib.nDigits_big (by omega)]; have := ih (u / 10) (by omega); omega
theorem fT_range (c k : Int) : 0 ≤ fT c k ∧ fT c k ≤ 255 := by
  unfold fT
  split
  · exact byt_lt _ _
  · omega
theorem fNP_len {c : Int} {p : List UInt8} (hp : p.length ≤ 70000) : (fP c p).length + 1 + (fN c p).length ≤ 140737488355328 := by
  have := split_lens p
  unfold fP fN
  split
  · omega
  · simp
theorem fL_len {c : Int} {tg : List UInt8} (ht : tg.length ≤ 70000) : (fL c tg).length ≤ 140737488355328 := by
  unfold fL; split
  · split
    · simp
    · omega
  · simp
theorem fZ_range {k m z : Int} {p tg : List UInt8} (e : fcheck k p m tg z = 0) : -9223372036854775808 ≤ fZ (fcheck k p m tg z) z ∧ fZ (fcheck k p m tg z) z ≤ 9223372036854775807 := by
  have := fcheck_size e
  unfold fZ; split
  · split <;> omega
  · omega
theorem fR_good {k m z : Int} {p tg : List UInt8} (e : fcheck k p m tg z = 0) (hp : p.length ≤ 70000) (ht : tg.length ≤ 70000) : ∀ r ∈ fR (fcheck k p m tg z) p tg z, r.key.length ≤ 140737488355328 ∧ r.val.length ≤ 140737488355328 := by
  have hz := fcheck_size e
  have hn := nDigits_le_succ z.toNat
  rw [fR, if_pos e]
  unfold frecs
  intro r hr
  simp only [List.mem_append] at hr
  rcases hr with hr | hr | hr
  · split at hr
    · rw [List.mem_singleton.1 hr]; exact ⟨by show 8 ≤ _; decide, by show tg.length ≤ _; omega⟩
    · cases hr
  · split at hr
    · cases hr
    · rw [List.mem_singleton.1 hr]; exact ⟨by show 4 ≤ _; decide, by show p.length ≤ _; omega⟩
  · split at hr
    · rw [List.mem_singleton.1 hr]; exact ⟨by show 4 ≤ _; decide, by show (Lib.decDigits z.toNat).length ≤ _; rw [Lib.decDigits_length]; omega⟩
    · cases hr
theorem mem_less {l : List Rec} {a b : Nat} {r : Rec} (h : r ∈ l.take a ++ l.drop b) : r ∈ l := (List.mem_append.1 h).elim List.mem_of_mem_take List.mem_of_mem_drop
theorem oE_zero {r : Option (List UInt8 × List UInt8 × Int)} {l : List Rec} (h : oE r l = 0) : ∃ p tg z, r = some (p, tg, z) := by
  cases r with
  | some x => exact ⟨x.1, x.2.1, x.2.2, rfl⟩
  | none =>
    exfalso
    unfold oE at h
    simp only at h
    split at h <;> cases h
section
variable {k m z : Int} {p tg : List UInt8}
theorem less_key (e : fcheck k p m tg z = 0) {a b : Nat} (hab : b = a + 1) (ha : a < (fR (fcheck k p m tg z) p tg z).length) {l : List Rec}
    (y : oE (mres (fT (fcheck k p m tg z) k) (fN (fcheck k p m tg z) p) (fP (fcheck k p m tg z) p) (fL (fcheck k p m tg z) tg) (fM (fcheck k p m tg z) m) (fZ (fcheck k p m tg z) z) ((fR (fcheck k p m tg z) p tg z).take a ++ (fR (fcheck k p m tg z) p tg z).drop b)) l = 0) :
    (at_rec (fR (fcheck k p m tg z) p tg z) a).key = [115, 105, 122, 101] ∧ oZ (mres (fT (fcheck k p m tg z) k) (fN (fcheck k p m tg z) p) (fP (fcheck k p m tg z) p) (fL (fcheck k p m tg z) tg) (fM (fcheck k p m tg z) m) (fZ (fcheck k p m tg z) z) ((fR (fcheck k p m tg z) p tg z).take a ++ (fR (fcheck k p m tg z) p tg z).drop b)) = 0 := by
  subst hab
  obtain ⟨p', tg', z', hr⟩ := oE_zero y
  rw [hr]
  have e1 : fR (fcheck k p m tg z) p tg z = frecs p tg z := if_pos e
  rw [e1] at hr ha ⊢
  exact less_law e ha hr
theorem more_ok (e : fcheck k p m tg z = 0) {x : Rec}
    (y : ¬ oE (mres (fT (fcheck k p m tg z) k) (fN (fcheck k p m tg z) p) (fP (fcheck k p m tg z) p) (fL (fcheck k p m tg z) tg) (fM (fcheck k p m tg z) m) (fZ (fcheck k p m tg z) z) (fR (fcheck k p m tg z) p tg z ++ [x])) (fR (fcheck k p m tg z) p tg z ++ [x]) = 17) :
    oE (mres (fT (fcheck k p m tg z) k) (fN (fcheck k p m tg z) p) (fP (fcheck k p m tg z) p) (fL (fcheck k p m tg z) tg) (fM (fcheck k p m tg z) m) (fZ (fcheck k p m tg z) z) (fR (fcheck k p m tg z) p tg z ++ [x])) (fR (fcheck k p m tg z) p tg z ++ [x]) = 0 ∧ x.key = [115, 105, 122, 101] ∧ 8589934591 < oZ (mres (fT (fcheck k p m tg z) k) (fN (fcheck k p m tg z) p) (fP (fcheck k p m tg z) p) (fL (fcheck k p m tg z) tg) (fM (fcheck k p m tg z) m) (fZ (fcheck k p m tg z) z) (fR (fcheck k p m tg z) p tg z ++ [x])) := by
  have e1 : fR (fcheck k p m tg z) p tg z = frecs p tg z := if_pos e
  rw [e1] at y ⊢
  generalize hr : mres (fT (fcheck k p m tg z) k) (fN (fcheck k p m tg z) p) (fP (fcheck k p m tg z) p) (fL (fcheck k p m tg z) tg) (fM (fcheck k p m tg z) m) (fZ (fcheck k p m tg z) z) (frecs p tg z ++ [x]) = r at y ⊢
  cases r with
  | none => exact absurd (oE_pos (by simp)) y
  | some q => obtain ⟨p', tg', z'⟩ := q; exact ⟨rfl, more_law e hr⟩
theorem min_len (e : fcheck k p m tg z = 0) : (((fR (fcheck k p m tg z) p tg z).length : Int) = 0) ↔ ((((p.length : Int) ≤ 100 ∧ (tg.length : Int) ≤ 100) ∧ z ≤ 8589934591) ∨ ((¬ fP (fcheck k p m tg z) p = [] ∧ (tg.length : Int) ≤ 100) ∧ z ≤ 8589934591)) := by
  rw [fR, if_pos e, fP, if_pos e]
  have hs : sok p = true ↔ (p.length ≤ 100 ∨ ¬ spre p = []) := by
    constructor
    · intro h
      by_cases h1 : p.length ≤ 100
      · exact .inl h1
      · exact .inr (fun h2 => h1 ((join_split h).2.2.2.1 h2))
    · rintro (h | h)
      · unfold sok; simp [h]
      · exact Decidable.byContradiction (fun h2 => h (sok_nil (by simpa using h2)).2)
  unfold frecs
  by_cases h1 : 100 < tg.length
  · rw [if_pos h1]; simp; omega
  · rw [if_neg h1]
    by_cases h2 : sok p = true
    · rw [if_pos h2]
      have h2' := hs.1 h2
      by_cases h3 : 8589934591 < z
      · rw [if_pos h3]; simp; omega
      · rw [if_neg h3]; simp
        rcases h2' with h | h
        · left; omega
        · right; exact ⟨⟨h, by omega⟩, by omega⟩
    · rw [if_neg h2]
      have h2' := fun h => h2 (hs.2 h)
      simp only [List.nil_append, List.cons_append, List.length_cons]
      constructor
      · intro h; omega
      · rintro (h | h)
        · exact absurd (.inl (by omega)) h2'
        · exact absurd (.inr h.1.1) h2'
end
set_option maxRecDepth 100000 in
theorem fitIsMinimal (h : Heap) (hK : GlbK h) (hN : GlbN h) (hE : GlbE h) (hT : GlbT h) (hS : GlbS h) (k : Int) (p : List UInt8) (m : Int) (tg : List UInt8) (z : Int) (xk : List UInt8) (xv : List UInt8) (hk : -9223372036854775808 ≤ k ∧ k ≤ 9223372036854775807) (hp : p.length ≤ 140737488355328) (hm : -9223372036854775808 ≤ m ∧ m ≤ 9223372036854775807) (ht : tg.length ≤ 140737488355328) (hz : -9223372036854775808 ≤ z ∧ z ≤ 9223372036854775807) (hxk : xk.length ≤ 140737488355328) (hxv : xv.length ≤ 140737488355328) : Cal Tryd.prog 12 #[.agg #[.int .i64 (k), str p, .int .i64 (m), str tg, .int .i64 (z)], .agg #[str xk, str xv]] h (fun v h' => v = .bool true ∧ Ext h h') := by
  refine Cal_enter (args := [.agg #[.int .i64 (k), str p, .int .i64 (m), str tg, .int .i64 (z)], .agg #[str xk, str xv]]) Tryd.func12 rfl rfl rfl (fun σ => ?_)
  refine W_seq ?_
  refine W_region ?_
  refine L_mks (M_box rfl) rfl rfl rfl ?_
  rintro _ h1 ⟨rfl, hn1⟩
  have hk2 : Blk h1 h.size [.int .i64 (k), str p, .int .i64 (m), str tg, .int .i64 (z)] := hn1.blk
  refine L_mks (M_box rfl) rfl rfl rfl ?_
  rintro _ h2 ⟨rfl, hn3⟩
  have hk4 : Blk h2 h1.size [str xk, str xv] := hn3.blk
  refine L_yld (Y_assign rfl) rfl rfl rfl ?_
  refine L_nil ?_
  refine X_then ?_
  refine W_sub _ (.cons (i := 4) rfl (.cons (i := 3) rfl (.cons (i := 2) rfl (.nil _)))) ?_
  refine W_seq ?_
  refine W_region ?_
  refine L_yld (Y_ldbox (us := [.int .i64 (k), str p, .int .i64 (m), str tg, .int .i64 (z)]) Tryd.underlying46 rfl (show _ = some 5 by kernel_rfl) rfl (hk2.ext hn3.ext) rfl) rfl rfl rfl ?_
  refine L_call (E_call (by kernel_rfl) rfl) (fit_Plan _ (hK.ext (hn1.ext.trans hn3.ext)) (hN.ext (hn1.ext.trans hn3.ext)) (hE.ext (hn1.ext.trans hn3.ext)) (hT.ext (hn1.ext.trans hn3.ext)) k p m tg z (by first | omega | rfl | (simp <;> omega)) (by first | omega | rfl | (simp <;> omega)) (by first | omega | rfl | (simp <;> omega))) rfl rfl rfl ?_
  rintro _ h3 ⟨s15, rfl, hr16, hx7⟩
  refine L_yld (Y_move rfl) rfl rfl rfl ?_
  refine L_yld (Y_extract (v := .agg #[.int .u8 (fT (fcheck k p m tg z) k), str (fN (fcheck k p m tg z) p), str (fP (fcheck k p m tg z) p), str (fL (fcheck k p m tg z) tg), .int .i64 (fM (fcheck k p m tg z) m), .int .i64 (fZ (fcheck k p m tg z) z)]) rfl rfl) rfl rfl rfl ?_
  refine L_yld (Y_extract (v := s15) rfl rfl) rfl rfl rfl ?_
  refine L_yld (Y_extract (v := .int .i64 (fcheck k p m tg z)) rfl rfl) rfl rfl rfl ?_
  refine L_mks (M_alloc (u := .agg #[.int .u8 0, str [], str [], str [], .int .i64 0, .int .i64 0]) (by kernel_rfl)) rfl rfl rfl ?_
  rintro _ h4 ⟨rfl, hn8⟩
  have hk9 : Blk h4 h3.size [.int .u8 0, str [], str [], str [], .int .i64 0, .int .i64 0] := hn8.blk
  refine L_dos (D_store (us := [.int .u8 (fT (fcheck k p m tg z) k), str (fN (fcheck k p m tg z) p), str (fP (fcheck k p m tg z) p), str (fL (fcheck k p m tg z) tg), .int .i64 (fM (fcheck k p m tg z) m), .int .i64 (fZ (fcheck k p m tg z) z)]) (show _ = some 6 by kernel_rfl) rfl rfl rfl (by simp [Value.oneCell']) hk9 (by simp)) rfl rfl ?_
  rintro h5 hp10
  have hk11 : Blk h5 h3.size [.int .u8 (fT (fcheck k p m tg z) k), str (fN (fcheck k p m tg z) p), str (fP (fcheck k p m tg z) p), str (fL (fcheck k p m tg z) tg), .int .i64 (fM (fcheck k p m tg z) m), .int .i64 (fZ (fcheck k p m tg z) z)] := hp10.blk
  refine L_yld (Y_assign rfl) rfl rfl rfl ?_
  refine L_yld (Y_assign rfl) rfl rfl rfl ?_
  refine L_nil ?_
  refine X_then ?_
  refine W_sub _ (.cons (i := 7) rfl (.cons (i := 6) rfl (.cons (i := 5) rfl (.cons (i := 4) rfl (.cons (i := 3) rfl (.cons (i := 2) rfl (.nil _))))))) ?_
  refine W_seq ?_
  refine W_cut (S := Unit) (fun _ => [(37, .bool (decide (((0 < (if 70000 < p.length + tg.length then 1 else 0 : Int)) ∨ (¬ (fcheck k p m tg z) = 0)) ∨ (70000 < ((xk.length : Int) + (xv.length : Int)))))), (6, s15), (5, .pointer (some ⟨h3.size, 0, none⟩)), (4, .bool false), (3, .pointer (some ⟨h1.size, 0, none⟩)), (2, .pointer (some ⟨h.size, 0, none⟩))]) (fun _ h' => Ext h5 h') ?_ ?_
  · refine W_region ?_
    refine L_yld (Y_ldbox (us := [.int .i64 (k), str p, .int .i64 (m), str tg, .int .i64 (z)]) Tryd.underlying46 rfl (show _ = some 5 by kernel_rfl) rfl (hk2.ext (((hn3.ext.trans hx7).trans hn8.ext).then' hp10.only (by simp) (Nat.le_trans hn3.ext.size hx7.size))) rfl) rfl rfl rfl ?_
    refine L_call (E_call (by kernel_rfl) rfl) (law10_TooLarge _ k p m tg z (by first | omega | rfl | (simp <;> omega)) (by first | omega | rfl | (simp <;> omega))) rfl rfl rfl ?_
    rintro _ h6 ⟨rfl, hx12⟩
    refine L_yld (Y_gtr rfl rfl) rfl rfl rfl ?_
    refine L_yld (Y_move rfl) rfl rfl rfl ?_
    refine L_splitd (d := 24) rfl (fun c13 => ?_) (fun c13 => ?_)
    · refine L_skip rfl rfl rfl ?_
      refine L_skip rfl rfl rfl ?_
      refine L_yld (Y_pick_t rfl rfl) rfl rfl rfl ?_
      refine L_yld (Y_move rfl) rfl rfl rfl ?_
      refine L_skip rfl rfl rfl ?_
      refine L_skip rfl rfl rfl ?_
      refine L_skip rfl rfl rfl ?_
      refine L_skip rfl rfl rfl ?_
      refine L_skip rfl rfl rfl ?_
      refine L_skip rfl rfl rfl ?_
      refine L_skip rfl rfl rfl ?_
      refine L_skip rfl rfl rfl ?_
      refine L_yld (Y_pick_t rfl rfl) rfl rfl rfl ?_
      refine L_nil ?_
      exact X_cut () (.cons (i := 37) (lkb rfl (by simp only [eq_true c13, true_and, and_true, false_and, and_false, true_or, or_true, false_or, or_false, not_true_eq_false, not_false_eq_true, decide_true, decide_false, Bool.true_eq_false, Bool.false_eq_true, eq_self, Bool.decide_eq_true])) (.cons (i := 6) rfl (.cons (i := 5) rfl (.cons (i := 4) rfl (.cons (i := 3) rfl (.cons (i := 2) rfl (.nil _))))))) hx12
    · refine L_yld (Y_move rfl) rfl rfl rfl ?_
      refine L_yld (Y_neq rfl rfl) rfl rfl rfl ?_
      refine L_yld (Y_pick_f rfl rfl) rfl rfl rfl ?_
      refine L_yld (Y_move rfl) rfl rfl rfl ?_
      refine L_splitd (d := 28) rfl (fun c14 => ?_) (fun c14 => ?_)
      · refine L_skip rfl rfl rfl ?_
        refine L_skip rfl rfl rfl ?_
        refine L_skip rfl rfl rfl ?_
        refine L_skip rfl rfl rfl ?_
        refine L_skip rfl rfl rfl ?_
        refine L_skip rfl rfl rfl ?_
        refine L_skip rfl rfl rfl ?_
        refine L_skip rfl rfl rfl ?_
        refine L_yld (Y_pick_t rfl rfl) rfl rfl rfl ?_
        refine L_nil ?_
        exact X_cut () (.cons (i := 37) (lkb rfl (by simp only [eq_false c13, eq_true c14, true_and, and_true, false_and, and_false, true_or, or_true, false_or, or_false, not_true_eq_false, not_false_eq_true, decide_true, decide_false, Bool.true_eq_false, Bool.false_eq_true, eq_self, Bool.decide_eq_true])) (.cons (i := 6) rfl (.cons (i := 5) rfl (.cons (i := 4) rfl (.cons (i := 3) rfl (.cons (i := 2) rfl (.nil _))))))) hx12
      · refine L_yld (Y_fieldAddr (off := 0) (by kernel_rfl) rfl rfl) rfl rfl rfl ?_
        refine L_yld (Y_ldblk Tryd.underlying9 rfl rfl (hk4.ext (((hx7.trans hn8.ext).then' hp10.only (by simp) hx7.size).trans hx12)) rfl) rfl rfl rfl ?_
        refine L_yld (Y_slen Tryd.underlying9 rfl) rfl rfl rfl ?_
        refine L_yld (Y_fieldAddr (off := 1) (by kernel_rfl) rfl rfl) rfl rfl rfl ?_
        refine L_yld (Y_ldblk Tryd.underlying9 rfl rfl (hk4.ext (((hx7.trans hn8.ext).then' hp10.only (by simp) hx7.size).trans hx12)) rfl) rfl rfl rfl ?_
        refine L_yld (Y_slen Tryd.underlying9 rfl) rfl rfl rfl ?_
        refine L_yld (Y_add rfl rfl (by omega) (by omega)) rfl rfl rfl ?_
        refine L_yld (Y_gtr rfl rfl) rfl rfl rfl ?_
        refine L_yld (Y_pick_f rfl rfl) rfl rfl rfl ?_
        refine L_nil ?_
        exact X_cut () (.cons (i := 37) (lkb rfl (by simp only [eq_false c13, eq_false c14, true_and, and_true, false_and, and_false, true_or, or_true, false_or, or_false, not_true_eq_false, not_false_eq_true, decide_true, decide_false, Bool.true_eq_false, Bool.false_eq_true, eq_self, Bool.decide_eq_true])) (.cons (i := 6) rfl (.cons (i := 5) rfl (.cons (i := 4) rfl (.cons (i := 3) rfl (.cons (i := 2) rfl (.nil _))))))) hx12
  rintro _ h7 hx15
  show W _ _ _ _ _ [(37, .bool (decide (((0 < (if 70000 < p.length + tg.length then 1 else 0 : Int)) ∨ (¬ (fcheck k p m tg z) = 0)) ∨ (70000 < ((xk.length : Int) + (xv.length : Int)))))), (6, s15), (5, .pointer (some ⟨h3.size, 0, none⟩)), (4, .bool false), (3, .pointer (some ⟨h1.size, 0, none⟩)), (2, .pointer (some ⟨h.size, 0, none⟩))] _
  refine W_splitd rfl (fun g => ?_) (fun g => ?_)
  · refine W_seq ?_
    refine W_region ?_
    refine L_call (E_call (by kernel_rfl) rfl) (law10_alive _ (hK.ext (((((hn1.ext.trans hn3.ext).trans hx7).trans hn8.ext).then' hp10.only (by simp) (Nat.le_trans (Nat.le_trans hn1.ext.size hn3.ext.size) hx7.size)).trans hx15)) (hN.ext (((((hn1.ext.trans hn3.ext).trans hx7).trans hn8.ext).then' hp10.only (by simp) (Nat.le_trans (Nat.le_trans hn1.ext.size hn3.ext.size) hx7.size)).trans hx15)) (hE.ext (((((hn1.ext.trans hn3.ext).trans hx7).trans hn8.ext).then' hp10.only (by simp) (Nat.le_trans (Nat.le_trans hn1.ext.size hn3.ext.size) hx7.size)).trans hx15)) (hT.ext (((((hn1.ext.trans hn3.ext).trans hx7).trans hn8.ext).then' hp10.only (by simp) (Nat.le_trans (Nat.le_trans hn1.ext.size hn3.ext.size) hx7.size)).trans hx15))) rfl rfl rfl ?_
    rintro _ h8 ⟨rfl, hx16⟩
    refine L_yld (Y_assign rfl) rfl rfl rfl ?_
    refine L_nil ?_
    refine X_then ?_
    refine W_sub _ (.cons (i := 4) rfl (.cons (i := 6) rfl (.cons (i := 5) rfl (.cons (i := 3) rfl (.cons (i := 2) rfl (.nil _)))))) ?_
    refine W_ret ?_
    refine X_then_ret ?_
    refine X_ret1 rfl rfl ?_
    exact ⟨rfl, ((((((hn1.ext.trans hn3.ext).trans hx7).trans hn8.ext).then' hp10.only (by simp) (Nat.le_trans (Nat.le_trans hn1.ext.size hn3.ext.size) hx7.size)).trans hx15).trans hx16)⟩
  · refine W_skip ?_
    refine X_then ?_
    refine W_sub _ (.cons (i := 6) rfl (.cons (i := 5) rfl (.cons (i := 4) rfl (.cons (i := 3) rfl (.cons (i := 2) rfl (.nil _)))))) ?_
    have e0 : fcheck k p m tg z = 0 := Classical.not_not.1 (fun e => g (.inl (.inr e)))
    have hsum : p.length + tg.length ≤ 70000 := by apply Decidable.byContradiction; intro h9; exact g (.inl (.inl (by rw [if_pos (by omega)]; decide)))
    have hx9 : xk.length + xv.length ≤ 70000 := Decidable.byContradiction (fun h9 => g (.inr (by omega)))
    have hR3 := fR_len (fcheck k p m tg z) p tg z
    have hRg := fR_good e0 (by omega) (by omega)
    have hfT := fT_range (fcheck k p m tg z) k
    have hfNP := fNP_len (c := fcheck k p m tg z) (p := p) (by omega)
    have hfL := fL_len (c := fcheck k p m tg z) (tg := tg) (by omega)
    have hfZ := fZ_range e0
    refine W_seq ?_
    refine W_seq ?_
    refine W_region ?_
    refine L_yld (Y_move rfl) rfl rfl rfl ?_
    refine L_yld (Y_lenr Tryd.underlying22 rfl (hr16.rows.ext ((hn8.ext.then' hp10.only (by simp) (Nat.le_refl _)).trans hx15))) rfl rfl rfl ?_
    refine L_yld (Y_move rfl) rfl rfl rfl ?_
    refine L_nil ?_
    refine X_then ?_
    refine W_sub _ (.cons (i := 41) rfl (.cons (i := 40) rfl (.cons (i := 6) rfl (.cons (i := 5) rfl (.cons (i := 4) rfl (.cons (i := 3) rfl (.cons (i := 2) rfl (.nil _)))))))) ?_
    refine W_block ?_
    refine W_loop (S := Nat) (fun i => [(40, .int .i64 (((fR (fcheck k p m tg z) p tg z).length : Int))), (6, s15), (5, .pointer (some ⟨h3.size, 0, none⟩)), (3, .pointer (some ⟨h1.size, 0, none⟩)), (2, .pointer (some ⟨h.size, 0, none⟩)), (41, .int .i64 ((i : Int)))]) (fun i h' => i ≤ (fR (fcheck k p m tg z) p tg z).length ∧ Ext h7 h') (fun i => (fR (fcheck k p m tg z) p tg z).length - i) 0 (.cons (i := 40) rfl (.cons (i := 6) rfl (.cons (i := 5) rfl (.cons (i := 3) rfl (.cons (i := 2) rfl (.cons (i := 41) rfl (.nil _))))))) ?_ ?_
    · exact ⟨by omega, Ext.refl _⟩
    rintro i h9 ⟨hi, hx⟩
    show W _ _ _ _ _ [(40, .int .i64 (((fR (fcheck k p m tg z) p tg z).length : Int))), (6, s15), (5, .pointer (some ⟨h3.size, 0, none⟩)), (3, .pointer (some ⟨h1.size, 0, none⟩)), (2, .pointer (some ⟨h.size, 0, none⟩)), (41, .int .i64 ((i : Int)))] _
    refine W_seq ?_
    refine W_region ?_
    refine L_yld (Y_lss rfl rfl) rfl rfl rfl ?_
    refine L_nil ?_
    refine X_then ?_
    refine W_seq ?_
    refine W_splitd rfl (fun hlt => ?_) (fun hlt => ?_)
    · refine W_skip ?_
      refine X_then ?_
      refine W_sub _ (.cons (i := 40) rfl (.cons (i := 6) rfl (.cons (i := 5) rfl (.cons (i := 3) rfl (.cons (i := 2) rfl (.cons (i := 41) rfl (.nil _))))))) ?_
      refine W_seq ?_
      refine W_block ?_
      refine W_seq ?_
      refine W_region ?_
      refine L_yld (Y_move rfl) rfl rfl rfl ?_
      refine L_yld (Y_assign rfl) rfl rfl rfl ?_
      refine L_nil ?_
      refine X_then ?_
      refine W_sub _ (.cons (i := 8) rfl (.cons (i := 40) rfl (.cons (i := 6) rfl (.cons (i := 5) rfl (.cons (i := 3) rfl (.cons (i := 2) rfl (.cons (i := 41) rfl (.nil _)))))))) ?_
      refine W_seq ?_
      refine W_pers [(8, .int .i64 ((i : Int))), (40, .int .i64 (((fR (fcheck k p m tg z) p tg z).length : Int))), (6, s15), (5, .pointer (some ⟨h3.size, 0, none⟩)), (3, .pointer (some ⟨h1.size, 0, none⟩)), (2, .pointer (some ⟨h.size, 0, none⟩)), (41, .int .i64 ((i : Int)))] (.cons (i := 8) rfl (.cons (i := 40) rfl (.cons (i := 6) rfl (.cons (i := 5) rfl (.cons (i := 3) rfl (.cons (i := 2) rfl (.cons (i := 41) rfl (.nil _)))))))) (by kernel_rfl) ?_
      refine LP_op 0 (fun hh r7_1 => RowsE recS hh h9.size r7_1) [] rfl rfl (by kernel_rfl) (fun _ _ _ x_ p_ => p_.ext x_) ?_ ?_
      · intro h10 hx17
        refine Needs_nil ?_
        refine Stp_mks (M_litr0 (S := recS) (cells := []) (E := 30) rfl rfl (fun _ => by kernel_rfl)) rfl ?_
        rintro v18 h11 ⟨ho19, hx20⟩
        exact ⟨hx20, (ho19.low hx17.size)⟩
      refine LP_op 1 (fun _ vv => s15 = vv) [] rfl rfl (by kernel_rfl) (fun _ _ _ _ p => p) ?_ ?_
      · intro h12 hx21
        refine Needs_nil ?_
        refine Stp_yld (Y_move rfl) rfl ?_
        exact rfl
      refine LP_op 2 (fun _ vv => .int .i64 ((i : Int)) = vv) [] rfl rfl (by kernel_rfl) (fun _ _ _ _ p => p) ?_ ?_
      · intro h13 hx22
        refine Needs_nil ?_
        refine Stp_yld (Y_move rfl) rfl ?_
        exact rfl
      refine LP_op 3 (fun hh r7_2 => Rows recS hh r7_2 ((fR (fcheck k p m tg z) p tg z).take ((i : Int)).toNat)) [(1, 45), (2, 46)] rfl rfl (by kernel_rfl) (fun _ _ _ x_ p_ => p_.ext x_) ?_ ?_
      · intro h14 hx23
        rintro _ rfl
        rintro _ rfl
        refine Needs_nil ?_
        have hb24 : Rows recS h14 (slcut 2 0 ((i : Int)).toNat s15) ((fR (fcheck k p m tg z) p tg z).take ((i : Int)).toNat) := ((hr16.rows.ext ((((hn8.ext.then' hp10.only (by simp) (Nat.le_refl _)).trans hx15).trans hx).trans hx23)).cuth (hi := ((i : Int)).toNat) (by omega))
        refine Stp_yld (Y_cutr_h Tryd.underlying22 (show _ = some 2 by kernel_rfl) rfl rfl (hr16.rows.ext ((((hn8.ext.then' hp10.only (by simp) (Nat.le_refl _)).trans hx15).trans hx).trans hx23)) rfl (by omega) (by omega)) rfl ?_
        exact hb24
      refine LP_op 4 (fun hh r7_3 => RowsO recS hh h9.size r7_3 ((fR (fcheck k p m tg z) p tg z).take ((i : Int)).toNat)) [(0, 44), (3, 47)] rfl rfl (by kernel_rfl) (fun _ _ _ x_ p_ => p_.ext x_) ?_ ?_
      · intro h15 hx25
        intro r7_1 q7_1
        intro r7_2 q7_2
        refine Needs_nil ?_
        refine Stp_mks (M_appe (z := 2) (bytes := 32) (z0 := (.agg #[str [], str []])) Tryd.underlying22 (by unfold elemRow; kernel_rfl) rfl rfl (by decide) rfl rfl q7_1 q7_2 hx25.size (by first | (simp; done) | (simp; omega) | omega)) rfl ?_
        rintro v26 h16 ⟨ho27, hx28⟩
        exact ⟨hx28, (ho27.low (Nat.le_refl _))⟩
      refine LP_op 5 (fun _ vv => s15 = vv) [] rfl rfl (by kernel_rfl) (fun _ _ _ _ p => p) ?_ ?_
      · intro h17 hx29
        refine Needs_nil ?_
        refine Stp_yld (Y_move rfl) rfl ?_
        exact rfl
      refine LP_op 6 (fun _ vv => .int .i64 ((i : Int)) = vv) [] rfl rfl (by kernel_rfl) (fun _ _ _ _ p => p) ?_ ?_
      · intro h18 hx30
        refine Needs_nil ?_
        refine Stp_yld (Y_move rfl) rfl ?_
        exact rfl
      refine LP_op 7 (fun _ vv => .int .i64 ((i : Int) + 1) = vv) [(6, 50)] rfl rfl (by kernel_rfl) (fun _ _ _ _ p => p) ?_ ?_
      · intro h19 hx31
        rintro _ rfl
        refine Needs_nil ?_
        refine Stp_yld (Y_add rfl rfl (by omega) (by omega)) rfl ?_
        exact rfl
      refine LP_op 8 (fun hh r7_4 => Rows recS hh r7_4 ((fR (fcheck k p m tg z) p tg z).drop ((i : Int) + 1).toNat)) [(5, 49), (7, 51)] rfl rfl (by kernel_rfl) (fun _ _ _ x_ p_ => p_.ext x_) ?_ ?_
      · intro h20 hx32
        rintro _ rfl
        rintro _ rfl
        refine Needs_nil ?_
        have hb33 : Rows recS h20 (slcut 2 ((i : Int) + 1).toNat (fR (fcheck k p m tg z) p tg z).length s15) ((fR (fcheck k p m tg z) p tg z).drop ((i : Int) + 1).toNat) := ((hr16.rows.ext ((((hn8.ext.then' hp10.only (by simp) (Nat.le_refl _)).trans hx15).trans hx).trans hx32)).cutl (lo := ((i : Int) + 1).toNat) (by omega))
        refine Stp_yld (Y_cutr_l Tryd.underlying22 (show _ = some 2 by kernel_rfl) rfl rfl (hr16.rows.ext ((((hn8.ext.then' hp10.only (by simp) (Nat.le_refl _)).trans hx15).trans hx).trans hx32)) rfl (by omega) (by omega)) rfl ?_
        exact hb33
      refine LP_tail rfl 9 [(4, 48), (8, 52)] rfl rfl (by kernel_rfl) (by kernel_rfl) (by kernel_rfl) rfl ?_
      intro h21 hx34
      intro r7_3 q7_3
      intro r7_4 q7_4
      refine Needs_nil ?_
      refine L_mks (M_appr0 nsRec (z := 2) (bytes := 32) (z0 := (.agg #[str [], str []])) Tryd.underlying22 (by unfold elemRow; kernel_rfl) rfl rfl (by decide) rfl rfl q7_3 q7_4 hx34.size (by first | (simp; done) | (simp; omega) | omega)) rfl rfl rfl ?_
      rintro v35 h22 ha36
      refine L_yld (Y_assign rfl) rfl rfl rfl ?_
      refine L_nil ?_
      refine X_then ?_
      refine W_sub _ (.cons (i := 9) rfl (.cons (i := 8) rfl (.cons (i := 40) rfl (.cons (i := 6) rfl (.cons (i := 5) rfl (.cons (i := 3) rfl (.cons (i := 2) rfl (.cons (i := 41) rfl (.nil _))))))))) ?_
      refine W_seq ?_
      refine W_region ?_
      refine L_yld (Y_ldbox (us := [.int .u8 (fT (fcheck k p m tg z) k), str (fN (fcheck k p m tg z) p), str (fP (fcheck k p m tg z) p), str (fL (fcheck k p m tg z) tg), .int .i64 (fM (fcheck k p m tg z) m), .int .i64 (fZ (fcheck k p m tg z) z)]) Tryd.underlying48 rfl (show _ = some 6 by kernel_rfl) rfl (hk11.ext (((hx15.trans hx).trans hx34).then' ha36.only ha36.ge (Nat.le_trans hx15.size hx.size))) rfl) rfl rfl rfl ?_
      refine L_yld (Y_move rfl) rfl rfl rfl ?_
      refine L_call (E_call (by kernel_rfl) rfl) (fit_Merge _ (hK.ext ((((((((hn1.ext.trans hn3.ext).trans hx7).trans hn8.ext).then' hp10.only (by simp) (Nat.le_trans (Nat.le_trans hn1.ext.size hn3.ext.size) hx7.size)).trans hx15).trans hx).trans hx34).then' ha36.only ha36.ge (Nat.le_trans (Nat.le_trans (Nat.le_trans (Nat.le_trans (Nat.le_trans (Nat.le_trans hn1.ext.size hn3.ext.size) hx7.size) hn8.ext.size) hp10.only.size) hx15.size) hx.size))) (hN.ext ((((((((hn1.ext.trans hn3.ext).trans hx7).trans hn8.ext).then' hp10.only (by simp) (Nat.le_trans (Nat.le_trans hn1.ext.size hn3.ext.size) hx7.size)).trans hx15).trans hx).trans hx34).then' ha36.only ha36.ge (Nat.le_trans (Nat.le_trans (Nat.le_trans (Nat.le_trans (Nat.le_trans (Nat.le_trans hn1.ext.size hn3.ext.size) hx7.size) hn8.ext.size) hp10.only.size) hx15.size) hx.size))) (hE.ext ((((((((hn1.ext.trans hn3.ext).trans hx7).trans hn8.ext).then' hp10.only (by simp) (Nat.le_trans (Nat.le_trans hn1.ext.size hn3.ext.size) hx7.size)).trans hx15).trans hx).trans hx34).then' ha36.only ha36.ge (Nat.le_trans (Nat.le_trans (Nat.le_trans (Nat.le_trans (Nat.le_trans (Nat.le_trans hn1.ext.size hn3.ext.size) hx7.size) hn8.ext.size) hp10.only.size) hx15.size) hx.size))) (hT.ext ((((((((hn1.ext.trans hn3.ext).trans hx7).trans hn8.ext).then' hp10.only (by simp) (Nat.le_trans (Nat.le_trans hn1.ext.size hn3.ext.size) hx7.size)).trans hx15).trans hx).trans hx34).then' ha36.only ha36.ge (Nat.le_trans (Nat.le_trans (Nat.le_trans (Nat.le_trans (Nat.le_trans (Nat.le_trans hn1.ext.size hn3.ext.size) hx7.size) hn8.ext.size) hp10.only.size) hx15.size) hx.size))) (hS.ext ((((((((hn1.ext.trans hn3.ext).trans hx7).trans hn8.ext).then' hp10.only (by simp) (Nat.le_trans (Nat.le_trans hn1.ext.size hn3.ext.size) hx7.size)).trans hx15).trans hx).trans hx34).then' ha36.only ha36.ge (Nat.le_trans (Nat.le_trans (Nat.le_trans (Nat.le_trans (Nat.le_trans (Nat.le_trans hn1.ext.size hn3.ext.size) hx7.size) hn8.ext.size) hp10.only.size) hx15.size) hx.size))) (fT (fcheck k p m tg z) k) (fN (fcheck k p m tg z) p) (fP (fcheck k p m tg z) p) (fL (fcheck k p m tg z) tg) (fM (fcheck k p m tg z) m) (fZ (fcheck k p m tg z) z) v35 (((fR (fcheck k p m tg z) p tg z).take ((i : Int)).toNat) ++ ((fR (fcheck k p m tg z) p tg z).drop ((i : Int) + 1).toNat)) ha36.own.rows hfT hfNP hfL hfZ (by simp; omega) (fun r hr => hRg r (mem_less hr))) rfl rfl rfl ?_
      rintro _ h23 ⟨rfl, hx37⟩
      refine L_yld (Y_move rfl) rfl rfl rfl ?_
      refine L_yld (Y_extract (v := .agg #[.int .i64 (oI (mres (fT (fcheck k p m tg z) k) (fN (fcheck k p m tg z) p) (fP (fcheck k p m tg z) p) (fL (fcheck k p m tg z) tg) (fM (fcheck k p m tg z) m) (fZ (fcheck k p m tg z) z) (((fR (fcheck k p m tg z) p tg z).take ((i : Int)).toNat) ++ ((fR (fcheck k p m tg z) p tg z).drop ((i : Int) + 1).toNat))) (mkind (fT (fcheck k p m tg z) k))), str (oP (mres (fT (fcheck k p m tg z) k) (fN (fcheck k p m tg z) p) (fP (fcheck k p m tg z) p) (fL (fcheck k p m tg z) tg) (fM (fcheck k p m tg z) m) (fZ (fcheck k p m tg z) z) (((fR (fcheck k p m tg z) p tg z).take ((i : Int)).toNat) ++ ((fR (fcheck k p m tg z) p tg z).drop ((i : Int) + 1).toNat)))), .int .i64 (oI (mres (fT (fcheck k p m tg z) k) (fN (fcheck k p m tg z) p) (fP (fcheck k p m tg z) p) (fL (fcheck k p m tg z) tg) (fM (fcheck k p m tg z) m) (fZ (fcheck k p m tg z) z) (((fR (fcheck k p m tg z) p tg z).take ((i : Int)).toNat) ++ ((fR (fcheck k p m tg z) p tg z).drop ((i : Int) + 1).toNat))) (fM (fcheck k p m tg z) m)), str (oT (mres (fT (fcheck k p m tg z) k) (fN (fcheck k p m tg z) p) (fP (fcheck k p m tg z) p) (fL (fcheck k p m tg z) tg) (fM (fcheck k p m tg z) m) (fZ (fcheck k p m tg z) z) (((fR (fcheck k p m tg z) p tg z).take ((i : Int)).toNat) ++ ((fR (fcheck k p m tg z) p tg z).drop ((i : Int) + 1).toNat)))), .int .i64 (oZ (mres (fT (fcheck k p m tg z) k) (fN (fcheck k p m tg z) p) (fP (fcheck k p m tg z) p) (fL (fcheck k p m tg z) tg) (fM (fcheck k p m tg z) m) (fZ (fcheck k p m tg z) z) (((fR (fcheck k p m tg z) p tg z).take ((i : Int)).toNat) ++ ((fR (fcheck k p m tg z) p tg z).drop ((i : Int) + 1).toNat))))]) rfl rfl) rfl rfl rfl ?_
      refine L_yld (Y_extract (v := .int .i64 (oE (mres (fT (fcheck k p m tg z) k) (fN (fcheck k p m tg z) p) (fP (fcheck k p m tg z) p) (fL (fcheck k p m tg z) tg) (fM (fcheck k p m tg z) m) (fZ (fcheck k p m tg z) z) (((fR (fcheck k p m tg z) p tg z).take ((i : Int)).toNat) ++ ((fR (fcheck k p m tg z) p tg z).drop ((i : Int) + 1).toNat))) (((fR (fcheck k p m tg z) p tg z).take ((i : Int)).toNat) ++ ((fR (fcheck k p m tg z) p tg z).drop ((i : Int) + 1).toNat)))) rfl rfl) rfl rfl rfl ?_
      refine L_mks (M_alloc (u := .agg #[.int .i64 0, str [], .int .i64 0, str [], .int .i64 0]) (by kernel_rfl)) rfl rfl rfl ?_
      rintro _ h24 ⟨rfl, hn38⟩
      have hk39 : Blk h24 h23.size [.int .i64 0, str [], .int .i64 0, str [], .int .i64 0] := hn38.blk
      refine L_dos (D_store (us := [.int .i64 (oI (mres (fT (fcheck k p m tg z) k) (fN (fcheck k p m tg z) p) (fP (fcheck k p m tg z) p) (fL (fcheck k p m tg z) tg) (fM (fcheck k p m tg z) m) (fZ (fcheck k p m tg z) z) (((fR (fcheck k p m tg z) p tg z).take ((i : Int)).toNat) ++ ((fR (fcheck k p m tg z) p tg z).drop ((i : Int) + 1).toNat))) (mkind (fT (fcheck k p m tg z) k))), str (oP (mres (fT (fcheck k p m tg z) k) (fN (fcheck k p m tg z) p) (fP (fcheck k p m tg z) p) (fL (fcheck k p m tg z) tg) (fM (fcheck k p m tg z) m) (fZ (fcheck k p m tg z) z) (((fR (fcheck k p m tg z) p tg z).take ((i : Int)).toNat) ++ ((fR (fcheck k p m tg z) p tg z).drop ((i : Int) + 1).toNat)))), .int .i64 (oI (mres (fT (fcheck k p m tg z) k) (fN (fcheck k p m tg z) p) (fP (fcheck k p m tg z) p) (fL (fcheck k p m tg z) tg) (fM (fcheck k p m tg z) m) (fZ (fcheck k p m tg z) z) (((fR (fcheck k p m tg z) p tg z).take ((i : Int)).toNat) ++ ((fR (fcheck k p m tg z) p tg z).drop ((i : Int) + 1).toNat))) (fM (fcheck k p m tg z) m)), str (oT (mres (fT (fcheck k p m tg z) k) (fN (fcheck k p m tg z) p) (fP (fcheck k p m tg z) p) (fL (fcheck k p m tg z) tg) (fM (fcheck k p m tg z) m) (fZ (fcheck k p m tg z) z) (((fR (fcheck k p m tg z) p tg z).take ((i : Int)).toNat) ++ ((fR (fcheck k p m tg z) p tg z).drop ((i : Int) + 1).toNat)))), .int .i64 (oZ (mres (fT (fcheck k p m tg z) k) (fN (fcheck k p m tg z) p) (fP (fcheck k p m tg z) p) (fL (fcheck k p m tg z) tg) (fM (fcheck k p m tg z) m) (fZ (fcheck k p m tg z) z) (((fR (fcheck k p m tg z) p tg z).take ((i : Int)).toNat) ++ ((fR (fcheck k p m tg z) p tg z).drop ((i : Int) + 1).toNat))))]) (show _ = some 5 by kernel_rfl) rfl rfl rfl (by simp [Value.oneCell']) hk39 (by simp)) rfl rfl ?_
      rintro h25 hp40
      have hk41 : Blk h25 h23.size [.int .i64 (oI (mres (fT (fcheck k p m tg z) k) (fN (fcheck k p m tg z) p) (fP (fcheck k p m tg z) p) (fL (fcheck k p m tg z) tg) (fM (fcheck k p m tg z) m) (fZ (fcheck k p m tg z) z) (((fR (fcheck k p m tg z) p tg z).take ((i : Int)).toNat) ++ ((fR (fcheck k p m tg z) p tg z).drop ((i : Int) + 1).toNat))) (mkind (fT (fcheck k p m tg z) k))), str (oP (mres (fT (fcheck k p m tg z) k) (fN (fcheck k p m tg z) p) (fP (fcheck k p m tg z) p) (fL (fcheck k p m tg z) tg) (fM (fcheck k p m tg z) m) (fZ (fcheck k p m tg z) z) (((fR (fcheck k p m tg z) p tg z).take ((i : Int)).toNat) ++ ((fR (fcheck k p m tg z) p tg z).drop ((i : Int) + 1).toNat)))), .int .i64 (oI (mres (fT (fcheck k p m tg z) k) (fN (fcheck k p m tg z) p) (fP (fcheck k p m tg z) p) (fL (fcheck k p m tg z) tg) (fM (fcheck k p m tg z) m) (fZ (fcheck k p m tg z) z) (((fR (fcheck k p m tg z) p tg z).take ((i : Int)).toNat) ++ ((fR (fcheck k p m tg z) p tg z).drop ((i : Int) + 1).toNat))) (fM (fcheck k p m tg z) m)), str (oT (mres (fT (fcheck k p m tg z) k) (fN (fcheck k p m tg z) p) (fP (fcheck k p m tg z) p) (fL (fcheck k p m tg z) tg) (fM (fcheck k p m tg z) m) (fZ (fcheck k p m tg z) z) (((fR (fcheck k p m tg z) p tg z).take ((i : Int)).toNat) ++ ((fR (fcheck k p m tg z) p tg z).drop ((i : Int) + 1).toNat)))), .int .i64 (oZ (mres (fT (fcheck k p m tg z) k) (fN (fcheck k p m tg z) p) (fP (fcheck k p m tg z) p) (fL (fcheck k p m tg z) tg) (fM (fcheck k p m tg z) m) (fZ (fcheck k p m tg z) z) (((fR (fcheck k p m tg z) p tg z).take ((i : Int)).toNat) ++ ((fR (fcheck k p m tg z) p tg z).drop ((i : Int) + 1).toNat))))] := hp40.blk
      refine L_yld (Y_assign rfl) rfl rfl rfl ?_
      refine L_nil ?_
      refine X_then ?_
      refine W_sub _ (.cons (i := 11) rfl (.cons (i := 10) rfl (.cons (i := 8) rfl (.cons (i := 40) rfl (.cons (i := 6) rfl (.cons (i := 5) rfl (.cons (i := 3) rfl (.cons (i := 2) rfl (.cons (i := 41) rfl (.nil _)))))))))) ?_
      refine W_seq ?_
      refine W_region ?_
      refine L_yld (Y_move rfl) rfl rfl rfl ?_
      refine L_yld (Y_eql rfl rfl) rfl rfl rfl ?_
      refine L_yld (Y_move rfl) rfl rfl rfl ?_
      refine L_splitd (d := 62) rfl (fun y => ?_) (fun y => ?_)
      · refine L_yld (Y_move rfl) rfl rfl rfl ?_
        refine L_yld (Y_move rfl) rfl rfl rfl ?_
        refine L_yld (Y_idxr Tryd.underlying22 (show _ = some 2 by kernel_rfl) rfl rfl rfl (hr16.rows.ext ((((((((hn8.ext.then' hp10.only (by simp) (Nat.le_refl _)).trans hx15).trans hx).trans hx34).then' ha36.only ha36.ge (Nat.le_trans (Nat.le_trans (Nat.le_trans hn8.ext.size hp10.only.size) hx15.size) hx.size)).trans hx37).trans hn38.ext).then' hp40.only (by simp) (Nat.le_trans (Nat.le_trans (Nat.le_trans (Nat.le_trans (Nat.le_trans (Nat.le_trans hn8.ext.size hp10.only.size) hx15.size) hx.size) hx34.size) ha36.only.size) hx37.size))) (by omega) (by omega)) rfl rfl rfl ?_
        refine L_yld (Y_fldr (k := ((i : Int)).toNat) (off := 0) (by kernel_rfl) rfl (hr16.rows.ext ((((((((hn8.ext.then' hp10.only (by simp) (Nat.le_refl _)).trans hx15).trans hx).trans hx34).then' ha36.only ha36.ge (Nat.le_trans (Nat.le_trans (Nat.le_trans hn8.ext.size hp10.only.size) hx15.size) hx.size)).trans hx37).trans hn38.ext).then' hp40.only (by simp) (Nat.le_trans (Nat.le_trans (Nat.le_trans (Nat.le_trans (Nat.le_trans (Nat.le_trans hn8.ext.size hp10.only.size) hx15.size) hx.size) hx34.size) ha36.only.size) hx37.size))) (by omega)) rfl rfl rfl ?_
        refine L_yld (Y_ldr1 (off := 0) (k := ((i : Int)).toNat) Tryd.underlying9 rfl rfl rfl (hr16.rows.ext ((((((((hn8.ext.then' hp10.only (by simp) (Nat.le_refl _)).trans hx15).trans hx).trans hx34).then' ha36.only ha36.ge (Nat.le_trans (Nat.le_trans (Nat.le_trans hn8.ext.size hp10.only.size) hx15.size) hx.size)).trans hx37).trans hn38.ext).then' hp40.only (by simp) (Nat.le_trans (Nat.le_trans (Nat.le_trans (Nat.le_trans (Nat.le_trans (Nat.le_trans hn8.ext.size hp10.only.size) hx15.size) hx.size) hx34.size) ha36.only.size) hx37.size))) (by omega) rfl) rfl rfl rfl ?_
        refine L_yld (Y_sneq rfl rfl) rfl rfl rfl ?_
        refine L_yld (Y_move rfl) rfl rfl rfl ?_
        refine L_known (d := 69) false rfl (by exact decide_eq_false (by exact fun h => h (less_key e0 (by omega) (by omega) y).1)) ?_
        refine L_yld (Y_fieldAddr (off := 4) (by kernel_rfl) rfl rfl) rfl rfl rfl ?_
        refine L_yld (Y_ldblk Tryd.underlying2 rfl rfl hk41 rfl) rfl rfl rfl ?_
        refine L_yld (Y_neq rfl rfl) rfl rfl rfl ?_
        refine L_yld (Y_pick_f rfl rfl) rfl rfl rfl ?_
        refine L_yld (Y_pick_t rfl rfl) rfl rfl rfl ?_
        refine L_nil ?_
        refine X_then ?_
        refine W_sub _ (.cons (i := 74) rfl (.cons (i := 40) rfl (.cons (i := 6) rfl (.cons (i := 5) rfl (.cons (i := 3) rfl (.cons (i := 2) rfl (.cons (i := 41) rfl (.nil _)))))))) ?_
        refine W_known false rfl (by exact decide_eq_false (by exact fun h => h (less_key e0 (by omega) (by omega) y).2)) ?_
        refine W_skip ?_
        refine X_block ?_
        refine X_then ?_
        refine W_sub _ (.cons (i := 40) rfl (.cons (i := 6) rfl (.cons (i := 5) rfl (.cons (i := 3) rfl (.cons (i := 2) rfl (.cons (i := 41) rfl (.nil _))))))) ?_
        refine W_region ?_
        refine L_yld (Y_add rfl rfl (by omega) (by omega)) rfl rfl rfl ?_
        refine L_yld (Y_move rfl) rfl rfl rfl ?_
        refine L_nil ?_
        refine X_loop (i + 1) (.cons (i := 40) rfl (.cons (i := 6) rfl (.cons (i := 5) rfl (.cons (i := 3) rfl (.cons (i := 2) rfl (.cons (i := 41) rfl (.nil _))))))) ?_ ?_
        · exact ⟨by omega, (((((hx.trans hx34).then' ha36.only ha36.ge hx.size).trans hx37).trans hn38.ext).then' hp40.only (by simp) (Nat.le_trans (Nat.le_trans (Nat.le_trans hx.size hx34.size) ha36.only.size) hx37.size))⟩
        · (try dsimp only)
          omega
      · refine L_skip rfl rfl rfl ?_
        refine L_skip rfl rfl rfl ?_
        refine L_skip rfl rfl rfl ?_
        refine L_skip rfl rfl rfl ?_
        refine L_skip rfl rfl rfl ?_
        refine L_skip rfl rfl rfl ?_
        refine L_skip rfl rfl rfl ?_
        refine L_skip rfl rfl rfl ?_
        refine L_skip rfl rfl rfl ?_
        refine L_skip rfl rfl rfl ?_
        refine L_skip rfl rfl rfl ?_
        refine L_yld (Y_pick_f rfl rfl) rfl rfl rfl ?_
        refine L_nil ?_
        refine X_then ?_
        refine W_sub _ (.cons (i := 74) rfl (.cons (i := 40) rfl (.cons (i := 6) rfl (.cons (i := 5) rfl (.cons (i := 3) rfl (.cons (i := 2) rfl (.cons (i := 41) rfl (.nil _)))))))) ?_
        refine W_false rfl ?_
        refine W_skip ?_
        refine X_block ?_
        refine X_then ?_
        refine W_sub _ (.cons (i := 40) rfl (.cons (i := 6) rfl (.cons (i := 5) rfl (.cons (i := 3) rfl (.cons (i := 2) rfl (.cons (i := 41) rfl (.nil _))))))) ?_
        refine W_region ?_
        refine L_yld (Y_add rfl rfl (by omega) (by omega)) rfl rfl rfl ?_
        refine L_yld (Y_move rfl) rfl rfl rfl ?_
        refine L_nil ?_
        refine X_loop (i + 1) (.cons (i := 40) rfl (.cons (i := 6) rfl (.cons (i := 5) rfl (.cons (i := 3) rfl (.cons (i := 2) rfl (.cons (i := 41) rfl (.nil _))))))) ?_ ?_
        · exact ⟨by omega, (((((hx.trans hx34).then' ha36.only ha36.ge hx.size).trans hx37).trans hn38.ext).then' hp40.only (by simp) (Nat.le_trans (Nat.le_trans (Nat.le_trans hx.size hx34.size) ha36.only.size) hx37.size))⟩
        · (try dsimp only)
          omega
    · refine W_exit ?_
      refine X_then_exit ?_
      refine X_then_exit ?_
      refine X_block_hit ?_
      refine X_then ?_
      refine W_sub _ (.cons (i := 6) rfl (.cons (i := 5) rfl (.cons (i := 3) rfl (.cons (i := 2) rfl (.nil _))))) ?_
      refine W_seq ?_
      refine W_cut (S := Unit) (fun _ => [(110, .bool ((decide (((fR (fcheck k p m tg z) p tg z).length : Int) = 0)) != (decide (((((p.length : Int) ≤ 100) ∧ ((tg.length : Int) ≤ 100)) ∧ (z ≤ 8589934591)) ∨ (((¬ (fP (fcheck k p m tg z) p) = []) ∧ ((tg.length : Int) ≤ 100)) ∧ (z ≤ 8589934591)))))), (6, s15), (5, .pointer (some ⟨h3.size, 0, none⟩)), (3, .pointer (some ⟨h1.size, 0, none⟩))]) (fun _ h' => h' = h9) ?_ ?_
      · refine W_region ?_
        refine L_yld (Y_move rfl) rfl rfl rfl ?_
        refine L_yld (Y_lenr Tryd.underlying22 rfl (hr16.rows.ext (((hn8.ext.then' hp10.only (by simp) (Nat.le_refl _)).trans hx15).trans hx))) rfl rfl rfl ?_
        refine L_yld (Y_eql rfl rfl) rfl rfl rfl ?_
        refine L_yld (Y_fieldAddr (off := 1) (by kernel_rfl) rfl rfl) rfl rfl rfl ?_
        refine L_yld (Y_ldblk Tryd.underlying9 rfl rfl (hk2.ext (((((hn3.ext.trans hx7).trans hn8.ext).then' hp10.only (by simp) (Nat.le_trans hn3.ext.size hx7.size)).trans hx15).trans hx)) rfl) rfl rfl rfl ?_
        refine L_yld (Y_slen Tryd.underlying9 rfl) rfl rfl rfl ?_
        refine L_yld (Y_leq rfl rfl) rfl rfl rfl ?_
        refine L_yld (Y_move rfl) rfl rfl rfl ?_
        refine L_splitd (d := 83) rfl (fun c42 => ?_) (fun c42 => ?_)
        · refine L_yld (Y_fieldAddr (off := 3) (by kernel_rfl) rfl rfl) rfl rfl rfl ?_
          refine L_yld (Y_ldblk Tryd.underlying9 rfl rfl (hk2.ext (((((hn3.ext.trans hx7).trans hn8.ext).then' hp10.only (by simp) (Nat.le_trans hn3.ext.size hx7.size)).trans hx15).trans hx)) rfl) rfl rfl rfl ?_
          refine L_yld (Y_slen Tryd.underlying9 rfl) rfl rfl rfl ?_
          refine L_yld (Y_leq rfl rfl) rfl rfl rfl ?_
          refine L_yld (Y_pick_t rfl rfl) rfl rfl rfl ?_
          refine L_yld (Y_move rfl) rfl rfl rfl ?_
          refine L_splitd (d := 89) rfl (fun c43 => ?_) (fun c43 => ?_)
          · refine L_yld (Y_fieldAddr (off := 4) (by kernel_rfl) rfl rfl) rfl rfl rfl ?_
            refine L_yld (Y_ldblk Tryd.underlying2 rfl rfl (hk2.ext (((((hn3.ext.trans hx7).trans hn8.ext).then' hp10.only (by simp) (Nat.le_trans hn3.ext.size hx7.size)).trans hx15).trans hx)) rfl) rfl rfl rfl ?_
            refine L_yld (Y_leq rfl rfl) rfl rfl rfl ?_
            refine L_yld (Y_pick_t rfl rfl) rfl rfl rfl ?_
            refine L_yld (Y_move rfl) rfl rfl rfl ?_
            refine L_splitd (d := 94) rfl (fun c44 => ?_) (fun c44 => ?_)
            · refine L_skip rfl rfl rfl ?_
              refine L_skip rfl rfl rfl ?_
              refine L_skip rfl rfl rfl ?_
              refine L_skip rfl rfl rfl ?_
              refine L_skip rfl rfl rfl ?_
              refine L_skip rfl rfl rfl ?_
              refine L_skip rfl rfl rfl ?_
              refine L_skip rfl rfl rfl ?_
              refine L_skip rfl rfl rfl ?_
              refine L_skip rfl rfl rfl ?_
              refine L_skip rfl rfl rfl ?_
              refine L_skip rfl rfl rfl ?_
              refine L_skip rfl rfl rfl ?_
              refine L_skip rfl rfl rfl ?_
              refine L_yld (Y_pick_t rfl rfl) rfl rfl rfl ?_
              refine L_yld (Y_bneq Tryd.underlying4 rfl rfl) rfl rfl rfl ?_
              refine L_nil ?_
              exact X_cut () (.cons (i := 110) (lkb rfl (by simp only [eq_true c42, eq_true c43, eq_true c44, true_and, and_true, false_and, and_false, true_or, or_true, false_or, or_false, not_true_eq_false, not_false_eq_true, decide_true, decide_false, Bool.true_eq_false, Bool.false_eq_true, eq_self, Bool.decide_eq_true])) (.cons (i := 6) rfl (.cons (i := 5) rfl (.cons (i := 3) rfl (.nil _))))) rfl
            · refine L_yld (Y_fieldAddr (off := 2) (by kernel_rfl) rfl rfl) rfl rfl rfl ?_
              refine L_yld (Y_ldblk Tryd.underlying9 rfl rfl (hk11.ext (hx15.trans hx)) rfl) rfl rfl rfl ?_
              refine L_yld (Y_sneq rfl rfl) rfl rfl rfl ?_
              refine L_yld (Y_move rfl) rfl rfl rfl ?_
              refine L_splitd (d := 98) rfl (fun c45 => ?_) (fun c45 => ?_)
              · refine L_yld (Y_fieldAddr (off := 3) (by kernel_rfl) rfl rfl) rfl rfl rfl ?_
                refine L_yld (Y_ldblk Tryd.underlying9 rfl rfl (hk2.ext (((((hn3.ext.trans hx7).trans hn8.ext).then' hp10.only (by simp) (Nat.le_trans hn3.ext.size hx7.size)).trans hx15).trans hx)) rfl) rfl rfl rfl ?_
                refine L_yld (Y_slen Tryd.underlying9 rfl) rfl rfl rfl ?_
                refine L_yld (Y_leq rfl rfl) rfl rfl rfl ?_
                refine L_yld (Y_pick_t rfl rfl) rfl rfl rfl ?_
                refine L_yld (Y_move rfl) rfl rfl rfl ?_
                refine L_splitd (d := 104) rfl (fun c46 => ?_) (fun c46 => ?_)
                · refine L_yld (Y_fieldAddr (off := 4) (by kernel_rfl) rfl rfl) rfl rfl rfl ?_
                  refine L_yld (Y_ldblk Tryd.underlying2 rfl rfl (hk2.ext (((((hn3.ext.trans hx7).trans hn8.ext).then' hp10.only (by simp) (Nat.le_trans hn3.ext.size hx7.size)).trans hx15).trans hx)) rfl) rfl rfl rfl ?_
                  refine L_yld (Y_leq rfl rfl) rfl rfl rfl ?_
                  refine L_yld (Y_pick_t rfl rfl) rfl rfl rfl ?_
                  refine L_yld (Y_pick_f rfl rfl) rfl rfl rfl ?_
                  refine L_yld (Y_bneq Tryd.underlying4 rfl rfl) rfl rfl rfl ?_
                  refine L_nil ?_
                  exact X_cut () (.cons (i := 110) (lkb rfl (by first | (simp only [eq_true c42, eq_true c43, eq_false c44, eq_true c45, eq_true c46, true_and, and_true, false_and, and_false, true_or, or_true, false_or, or_false, not_true_eq_false, not_false_eq_true, decide_true, decide_false, Bool.true_eq_false, Bool.false_eq_true, eq_self, Bool.decide_eq_true]; done) | (exfalso; contradiction) | (exfalso; omega))) (.cons (i := 6) rfl (.cons (i := 5) rfl (.cons (i := 3) rfl (.nil _))))) rfl
                · refine L_skip rfl rfl rfl ?_
                  refine L_skip rfl rfl rfl ?_
                  refine L_skip rfl rfl rfl ?_
                  refine L_yld (Y_pick_f rfl rfl) rfl rfl rfl ?_
                  refine L_yld (Y_pick_f rfl rfl) rfl rfl rfl ?_
                  refine L_yld (Y_bneq Tryd.underlying4 rfl rfl) rfl rfl rfl ?_
                  refine L_nil ?_
                  exact X_cut () (.cons (i := 110) (lkb rfl (by first | (simp only [eq_true c42, eq_true c43, eq_false c44, eq_true c45, eq_false c46, true_and, and_true, false_and, and_false, true_or, or_true, false_or, or_false, not_true_eq_false, not_false_eq_true, decide_true, decide_false, Bool.true_eq_false, Bool.false_eq_true, eq_self, Bool.decide_eq_true]; done) | (exfalso; contradiction) | (exfalso; omega))) (.cons (i := 6) rfl (.cons (i := 5) rfl (.cons (i := 3) rfl (.nil _))))) rfl
              · refine L_skip rfl rfl rfl ?_
                refine L_skip rfl rfl rfl ?_
                refine L_skip rfl rfl rfl ?_
                refine L_skip rfl rfl rfl ?_
                refine L_yld (Y_pick_f rfl rfl) rfl rfl rfl ?_
                refine L_yld (Y_move rfl) rfl rfl rfl ?_
                refine L_skip rfl rfl rfl ?_
                refine L_skip rfl rfl rfl ?_
                refine L_skip rfl rfl rfl ?_
                refine L_yld (Y_pick_f rfl rfl) rfl rfl rfl ?_
                refine L_yld (Y_pick_f rfl rfl) rfl rfl rfl ?_
                refine L_yld (Y_bneq Tryd.underlying4 rfl rfl) rfl rfl rfl ?_
                refine L_nil ?_
                exact X_cut () (.cons (i := 110) (lkb rfl (by first | (simp only [eq_true c42, eq_true c43, eq_false c44, eq_false c45, true_and, and_true, false_and, and_false, true_or, or_true, false_or, or_false, not_true_eq_false, not_false_eq_true, decide_true, decide_false, Bool.true_eq_false, Bool.false_eq_true, eq_self, Bool.decide_eq_true]; done) | (exfalso; contradiction) | (exfalso; omega))) (.cons (i := 6) rfl (.cons (i := 5) rfl (.cons (i := 3) rfl (.nil _))))) rfl
          · refine L_skip rfl rfl rfl ?_
            refine L_skip rfl rfl rfl ?_
            refine L_skip rfl rfl rfl ?_
            refine L_yld (Y_pick_f rfl rfl) rfl rfl rfl ?_
            refine L_yld (Y_move rfl) rfl rfl rfl ?_
            refine L_yld (Y_fieldAddr (off := 2) (by kernel_rfl) rfl rfl) rfl rfl rfl ?_
            refine L_yld (Y_ldblk Tryd.underlying9 rfl rfl (hk11.ext (hx15.trans hx)) rfl) rfl rfl rfl ?_
            refine L_yld (Y_sneq rfl rfl) rfl rfl rfl ?_
            refine L_yld (Y_move rfl) rfl rfl rfl ?_
            refine L_splitd (d := 98) rfl (fun c47 => ?_) (fun c47 => ?_)
            · refine L_yld (Y_fieldAddr (off := 3) (by kernel_rfl) rfl rfl) rfl rfl rfl ?_
              refine L_yld (Y_ldblk Tryd.underlying9 rfl rfl (hk2.ext (((((hn3.ext.trans hx7).trans hn8.ext).then' hp10.only (by simp) (Nat.le_trans hn3.ext.size hx7.size)).trans hx15).trans hx)) rfl) rfl rfl rfl ?_
              refine L_yld (Y_slen Tryd.underlying9 rfl) rfl rfl rfl ?_
              refine L_yld (Y_leq rfl rfl) rfl rfl rfl ?_
              refine L_yld (Y_pick_t rfl rfl) rfl rfl rfl ?_
              refine L_yld (Y_move rfl) rfl rfl rfl ?_
              refine L_splitd (d := 104) rfl (fun c48 => ?_) (fun c48 => ?_)
              · refine L_yld (Y_fieldAddr (off := 4) (by kernel_rfl) rfl rfl) rfl rfl rfl ?_
                refine L_yld (Y_ldblk Tryd.underlying2 rfl rfl (hk2.ext (((((hn3.ext.trans hx7).trans hn8.ext).then' hp10.only (by simp) (Nat.le_trans hn3.ext.size hx7.size)).trans hx15).trans hx)) rfl) rfl rfl rfl ?_
                refine L_yld (Y_leq rfl rfl) rfl rfl rfl ?_
                refine L_yld (Y_pick_t rfl rfl) rfl rfl rfl ?_
                refine L_yld (Y_pick_f rfl rfl) rfl rfl rfl ?_
                refine L_yld (Y_bneq Tryd.underlying4 rfl rfl) rfl rfl rfl ?_
                refine L_nil ?_
                exact X_cut () (.cons (i := 110) (lkb rfl (by first | (simp only [eq_true c42, eq_false c43, eq_true c47, eq_true c48, true_and, and_true, false_and, and_false, true_or, or_true, false_or, or_false, not_true_eq_false, not_false_eq_true, decide_true, decide_false, Bool.true_eq_false, Bool.false_eq_true, eq_self, Bool.decide_eq_true]; done) | (exfalso; contradiction) | (exfalso; omega))) (.cons (i := 6) rfl (.cons (i := 5) rfl (.cons (i := 3) rfl (.nil _))))) rfl
              · refine L_skip rfl rfl rfl ?_
                refine L_skip rfl rfl rfl ?_
                refine L_skip rfl rfl rfl ?_
                refine L_yld (Y_pick_f rfl rfl) rfl rfl rfl ?_
                refine L_yld (Y_pick_f rfl rfl) rfl rfl rfl ?_
                refine L_yld (Y_bneq Tryd.underlying4 rfl rfl) rfl rfl rfl ?_
                refine L_nil ?_
                exact X_cut () (.cons (i := 110) (lkb rfl (by first | (simp only [eq_true c42, eq_false c43, eq_true c47, eq_false c48, true_and, and_true, false_and, and_false, true_or, or_true, false_or, or_false, not_true_eq_false, not_false_eq_true, decide_true, decide_false, Bool.true_eq_false, Bool.false_eq_true, eq_self, Bool.decide_eq_true]; done) | (exfalso; contradiction) | (exfalso; omega))) (.cons (i := 6) rfl (.cons (i := 5) rfl (.cons (i := 3) rfl (.nil _))))) rfl
            · refine L_skip rfl rfl rfl ?_
              refine L_skip rfl rfl rfl ?_
              refine L_skip rfl rfl rfl ?_
              refine L_skip rfl rfl rfl ?_
              refine L_yld (Y_pick_f rfl rfl) rfl rfl rfl ?_
              refine L_yld (Y_move rfl) rfl rfl rfl ?_
              refine L_skip rfl rfl rfl ?_
              refine L_skip rfl rfl rfl ?_
              refine L_skip rfl rfl rfl ?_
              refine L_yld (Y_pick_f rfl rfl) rfl rfl rfl ?_
              refine L_yld (Y_pick_f rfl rfl) rfl rfl rfl ?_
              refine L_yld (Y_bneq Tryd.underlying4 rfl rfl) rfl rfl rfl ?_
              refine L_nil ?_
              exact X_cut () (.cons (i := 110) (lkb rfl (by simp only [eq_true c42, eq_false c43, eq_false c47, true_and, and_true, false_and, and_false, true_or, or_true, false_or, or_false, not_true_eq_false, not_false_eq_true, decide_true, decide_false, Bool.true_eq_false, Bool.false_eq_true, eq_self, Bool.decide_eq_true])) (.cons (i := 6) rfl (.cons (i := 5) rfl (.cons (i := 3) rfl (.nil _))))) rfl
        · refine L_skip rfl rfl rfl ?_
          refine L_skip rfl rfl rfl ?_
          refine L_skip rfl rfl rfl ?_
          refine L_skip rfl rfl rfl ?_
          refine L_yld (Y_pick_f rfl rfl) rfl rfl rfl ?_
          refine L_yld (Y_move rfl) rfl rfl rfl ?_
          refine L_skip rfl rfl rfl ?_
          refine L_skip rfl rfl rfl ?_
          refine L_skip rfl rfl rfl ?_
          refine L_yld (Y_pick_f rfl rfl) rfl rfl rfl ?_
          refine L_yld (Y_move rfl) rfl rfl rfl ?_
          refine L_yld (Y_fieldAddr (off := 2) (by kernel_rfl) rfl rfl) rfl rfl rfl ?_
          refine L_yld (Y_ldblk Tryd.underlying9 rfl rfl (hk11.ext (hx15.trans hx)) rfl) rfl rfl rfl ?_
          refine L_yld (Y_sneq rfl rfl) rfl rfl rfl ?_
          refine L_yld (Y_move rfl) rfl rfl rfl ?_
          refine L_splitd (d := 98) rfl (fun c49 => ?_) (fun c49 => ?_)
          · refine L_yld (Y_fieldAddr (off := 3) (by kernel_rfl) rfl rfl) rfl rfl rfl ?_
            refine L_yld (Y_ldblk Tryd.underlying9 rfl rfl (hk2.ext (((((hn3.ext.trans hx7).trans hn8.ext).then' hp10.only (by simp) (Nat.le_trans hn3.ext.size hx7.size)).trans hx15).trans hx)) rfl) rfl rfl rfl ?_
            refine L_yld (Y_slen Tryd.underlying9 rfl) rfl rfl rfl ?_
            refine L_yld (Y_leq rfl rfl) rfl rfl rfl ?_
            refine L_yld (Y_pick_t rfl rfl) rfl rfl rfl ?_
            refine L_yld (Y_move rfl) rfl rfl rfl ?_
            refine L_splitd (d := 104) rfl (fun c50 => ?_) (fun c50 => ?_)
            · refine L_yld (Y_fieldAddr (off := 4) (by kernel_rfl) rfl rfl) rfl rfl rfl ?_
              refine L_yld (Y_ldblk Tryd.underlying2 rfl rfl (hk2.ext (((((hn3.ext.trans hx7).trans hn8.ext).then' hp10.only (by simp) (Nat.le_trans hn3.ext.size hx7.size)).trans hx15).trans hx)) rfl) rfl rfl rfl ?_
              refine L_yld (Y_leq rfl rfl) rfl rfl rfl ?_
              refine L_yld (Y_pick_t rfl rfl) rfl rfl rfl ?_
              refine L_yld (Y_pick_f rfl rfl) rfl rfl rfl ?_
              refine L_yld (Y_bneq Tryd.underlying4 rfl rfl) rfl rfl rfl ?_
              refine L_nil ?_
              exact X_cut () (.cons (i := 110) (lkb rfl (by simp only [eq_false c42, eq_true c49, eq_true c50, true_and, and_true, false_and, and_false, true_or, or_true, false_or, or_false, not_true_eq_false, not_false_eq_true, decide_true, decide_false, Bool.true_eq_false, Bool.false_eq_true, eq_self, Bool.decide_eq_true])) (.cons (i := 6) rfl (.cons (i := 5) rfl (.cons (i := 3) rfl (.nil _))))) rfl
            · refine L_skip rfl rfl rfl ?_
              refine L_skip rfl rfl rfl ?_
              refine L_skip rfl rfl rfl ?_
              refine L_yld (Y_pick_f rfl rfl) rfl rfl rfl ?_
              refine L_yld (Y_pick_f rfl rfl) rfl rfl rfl ?_
              refine L_yld (Y_bneq Tryd.underlying4 rfl rfl) rfl rfl rfl ?_
              refine L_nil ?_
              exact X_cut () (.cons (i := 110) (lkb rfl (by simp only [eq_false c42, eq_true c49, eq_false c50, true_and, and_true, false_and, and_false, true_or, or_true, false_or, or_false, not_true_eq_false, not_false_eq_true, decide_true, decide_false, Bool.true_eq_false, Bool.false_eq_true, eq_self, Bool.decide_eq_true])) (.cons (i := 6) rfl (.cons (i := 5) rfl (.cons (i := 3) rfl (.nil _))))) rfl
          · refine L_skip rfl rfl rfl ?_
            refine L_skip rfl rfl rfl ?_
            refine L_skip rfl rfl rfl ?_
            refine L_skip rfl rfl rfl ?_
            refine L_yld (Y_pick_f rfl rfl) rfl rfl rfl ?_
            refine L_yld (Y_move rfl) rfl rfl rfl ?_
            refine L_skip rfl rfl rfl ?_
            refine L_skip rfl rfl rfl ?_
            refine L_skip rfl rfl rfl ?_
            refine L_yld (Y_pick_f rfl rfl) rfl rfl rfl ?_
            refine L_yld (Y_pick_f rfl rfl) rfl rfl rfl ?_
            refine L_yld (Y_bneq Tryd.underlying4 rfl rfl) rfl rfl rfl ?_
            refine L_nil ?_
            exact X_cut () (.cons (i := 110) (lkb rfl (by simp only [eq_false c42, eq_false c49, true_and, and_true, false_and, and_false, true_or, or_true, false_or, or_false, not_true_eq_false, not_false_eq_true, decide_true, decide_false, Bool.true_eq_false, Bool.false_eq_true, eq_self, Bool.decide_eq_true])) (.cons (i := 6) rfl (.cons (i := 5) rfl (.cons (i := 3) rfl (.nil _))))) rfl
      rintro _ h9 rfl
      show W _ _ _ _ _ [(110, .bool ((decide (((fR (fcheck k p m tg z) p tg z).length : Int) = 0)) != (decide (((((p.length : Int) ≤ 100) ∧ ((tg.length : Int) ≤ 100)) ∧ (z ≤ 8589934591)) ∨ (((¬ (fP (fcheck k p m tg z) p) = []) ∧ ((tg.length : Int) ≤ 100)) ∧ (z ≤ 8589934591)))))), (6, s15), (5, .pointer (some ⟨h3.size, 0, none⟩)), (3, .pointer (some ⟨h1.size, 0, none⟩))] _
      refine W_known false rfl (by rw [bne_eq_false_iff_eq, decide_eq_decide]; exact min_len e0) ?_
      refine W_skip ?_
      refine X_then ?_
      refine W_sub _ (.cons (i := 6) rfl (.cons (i := 5) rfl (.cons (i := 3) rfl (.nil _)))) ?_
      refine W_seq ?_
      refine W_pers [(6, s15), (5, .pointer (some ⟨h3.size, 0, none⟩)), (3, .pointer (some ⟨h1.size, 0, none⟩))] (.cons (i := 6) rfl (.cons (i := 5) rfl (.cons (i := 3) rfl (.nil _)))) (by kernel_rfl) ?_
      refine LP_op 0 (fun hh r14_1 => RowsE recS hh h9.size r14_1) [] rfl rfl (by kernel_rfl) (fun _ _ _ x_ p_ => p_.ext x_) ?_ ?_
      · intro h26 hx51
        refine Needs_nil ?_
        refine Stp_mks (M_litr0 (S := recS) (cells := []) (E := 30) rfl rfl (fun _ => by kernel_rfl)) rfl ?_
        rintro v52 h27 ⟨ho53, hx54⟩
        exact ⟨hx54, (ho53.low hx51.size)⟩
      refine LP_op 1 (fun _ vv => s15 = vv) [] rfl rfl (by kernel_rfl) (fun _ _ _ _ p => p) ?_ ?_
      · intro h28 hx55
        refine Needs_nil ?_
        refine Stp_yld (Y_move rfl) rfl ?_
        exact rfl
      refine LP_op 2 (fun hh r14_2 => RowsO recS hh h9.size r14_2 (fR (fcheck k p m tg z) p tg z)) [(1, 112), (0, 111)] rfl rfl (by kernel_rfl) (fun _ _ _ x_ p_ => p_.ext x_) ?_ ?_
      · intro h29 hx56
        rintro _ rfl
        intro r14_1 q14_1
        refine Needs_nil ?_
        refine Stp_mks (M_appe (z := 2) (bytes := 32) (z0 := (.agg #[str [], str []])) Tryd.underlying22 (by unfold elemRow; kernel_rfl) rfl rfl (by decide) rfl rfl q14_1 (hr16.rows.ext ((((hn8.ext.then' hp10.only (by simp) (Nat.le_refl _)).trans hx15).trans hx).trans hx56)) hx56.size (by first | (simp; done) | (simp; omega) | omega)) rfl ?_
        rintro v57 h30 ⟨ho58, hx59⟩
        exact ⟨hx59, (ho58.low (Nat.le_refl _))⟩
      refine LP_op 3 (fun _ vv => .agg #[str xk, str xv] = vv) [] rfl rfl (by kernel_rfl) (fun _ _ _ _ p => p) ?_ ?_
      · intro h31 hx60
        refine Needs_nil ?_
        refine Stp_yld (Y_ldbox (us := [str xk, str xv]) Tryd.underlying30 rfl (show _ = some 2 by kernel_rfl) rfl (hk4.ext (((((hx7.trans hn8.ext).then' hp10.only (by simp) hx7.size).trans hx15).trans hx).trans hx60)) rfl) rfl ?_
        exact rfl
      refine LP_op 4 (fun hh r14_3 => RowsO recS hh h9.size r14_3 ([⟨xk, xv⟩])) [(3, 114)] rfl rfl (by kernel_rfl) (fun _ _ _ x_ p_ => p_.ext x_) ?_ ?_
      · intro h32 hx61
        rintro _ rfl
        refine Needs_nil ?_
        refine Stp_mks (M_litr (S := recS) (l := [⟨xk, xv⟩]) (cells := [str xk, str xv]) (pv := [(0, .agg #[str xk, str xv])]) (E := 30) (evp (is := [0]) (os := [.tmp 114]) (vs := [.agg #[str xk, str xv]]) rfl rfl) rfl rfl (fun _ => by kernel_rfl) (by simp only [List.mem_cons, List.not_mem_nil, or_false, forall_eq_or_imp, forall_eq]; exact trivial)) rfl ?_
        rintro v62 h33 ⟨ho63, hx64⟩
        exact ⟨hx64, (ho63.low hx61.size)⟩
      refine LP_tail rfl 5 [(2, 113), (4, 115)] rfl rfl (by kernel_rfl) (by kernel_rfl) (by kernel_rfl) rfl ?_
      intro h34 hx65
      intro r14_2 q14_2
      intro r14_3 q14_3
      refine Needs_nil ?_
      refine L_mks (M_appr0 nsRec (z := 2) (bytes := 32) (z0 := (.agg #[str [], str []])) Tryd.underlying22 (by unfold elemRow; kernel_rfl) rfl rfl (by decide) rfl rfl q14_2 q14_3.rows hx65.size (by first | (simp; done) | (simp; omega) | omega)) rfl rfl rfl ?_
      rintro v66 h35 ha67
      refine L_yld (Y_assign rfl) rfl rfl rfl ?_
      refine L_nil ?_
      refine X_then ?_
      refine W_sub _ (.cons (i := 12) rfl (.cons (i := 5) rfl (.cons (i := 3) rfl (.nil _)))) ?_
      refine W_seq ?_
      refine W_region ?_
      refine L_yld (Y_ldbox (us := [.int .u8 (fT (fcheck k p m tg z) k), str (fN (fcheck k p m tg z) p), str (fP (fcheck k p m tg z) p), str (fL (fcheck k p m tg z) tg), .int .i64 (fM (fcheck k p m tg z) m), .int .i64 (fZ (fcheck k p m tg z) z)]) Tryd.underlying48 rfl (show _ = some 6 by kernel_rfl) rfl (hk11.ext (((hx15.trans hx).trans hx65).then' ha67.only ha67.ge (Nat.le_trans hx15.size hx.size))) rfl) rfl rfl rfl ?_
      refine L_yld (Y_move rfl) rfl rfl rfl ?_
      refine L_call (E_call (by kernel_rfl) rfl) (fit_Merge _ (hK.ext ((((((((hn1.ext.trans hn3.ext).trans hx7).trans hn8.ext).then' hp10.only (by simp) (Nat.le_trans (Nat.le_trans hn1.ext.size hn3.ext.size) hx7.size)).trans hx15).trans hx).trans hx65).then' ha67.only ha67.ge (Nat.le_trans (Nat.le_trans (Nat.le_trans (Nat.le_trans (Nat.le_trans (Nat.le_trans hn1.ext.size hn3.ext.size) hx7.size) hn8.ext.size) hp10.only.size) hx15.size) hx.size))) (hN.ext ((((((((hn1.ext.trans hn3.ext).trans hx7).trans hn8.ext).then' hp10.only (by simp) (Nat.le_trans (Nat.le_trans hn1.ext.size hn3.ext.size) hx7.size)).trans hx15).trans hx).trans hx65).then' ha67.only ha67.ge (Nat.le_trans (Nat.le_trans (Nat.le_trans (Nat.le_trans (Nat.le_trans (Nat.le_trans hn1.ext.size hn3.ext.size) hx7.size) hn8.ext.size) hp10.only.size) hx15.size) hx.size))) (hE.ext ((((((((hn1.ext.trans hn3.ext).trans hx7).trans hn8.ext).then' hp10.only (by simp) (Nat.le_trans (Nat.le_trans hn1.ext.size hn3.ext.size) hx7.size)).trans hx15).trans hx).trans hx65).then' ha67.only ha67.ge (Nat.le_trans (Nat.le_trans (Nat.le_trans (Nat.le_trans (Nat.le_trans (Nat.le_trans hn1.ext.size hn3.ext.size) hx7.size) hn8.ext.size) hp10.only.size) hx15.size) hx.size))) (hT.ext ((((((((hn1.ext.trans hn3.ext).trans hx7).trans hn8.ext).then' hp10.only (by simp) (Nat.le_trans (Nat.le_trans hn1.ext.size hn3.ext.size) hx7.size)).trans hx15).trans hx).trans hx65).then' ha67.only ha67.ge (Nat.le_trans (Nat.le_trans (Nat.le_trans (Nat.le_trans (Nat.le_trans (Nat.le_trans hn1.ext.size hn3.ext.size) hx7.size) hn8.ext.size) hp10.only.size) hx15.size) hx.size))) (hS.ext ((((((((hn1.ext.trans hn3.ext).trans hx7).trans hn8.ext).then' hp10.only (by simp) (Nat.le_trans (Nat.le_trans hn1.ext.size hn3.ext.size) hx7.size)).trans hx15).trans hx).trans hx65).then' ha67.only ha67.ge (Nat.le_trans (Nat.le_trans (Nat.le_trans (Nat.le_trans (Nat.le_trans (Nat.le_trans hn1.ext.size hn3.ext.size) hx7.size) hn8.ext.size) hp10.only.size) hx15.size) hx.size))) (fT (fcheck k p m tg z) k) (fN (fcheck k p m tg z) p) (fP (fcheck k p m tg z) p) (fL (fcheck k p m tg z) tg) (fM (fcheck k p m tg z) m) (fZ (fcheck k p m tg z) z) v66 ((fR (fcheck k p m tg z) p tg z) ++ [⟨xk, xv⟩]) ha67.own.rows hfT hfNP hfL hfZ (by simp; omega) (fun r hr => (List.mem_append.1 hr).elim (hRg r) (fun h9 => by rw [List.mem_singleton.1 h9]; exact ⟨hxk, hxv⟩))) rfl rfl rfl ?_
      rintro _ h36 ⟨rfl, hx68⟩
      refine L_yld (Y_move rfl) rfl rfl rfl ?_
      refine L_yld (Y_extract (v := .agg #[.int .i64 (oI (mres (fT (fcheck k p m tg z) k) (fN (fcheck k p m tg z) p) (fP (fcheck k p m tg z) p) (fL (fcheck k p m tg z) tg) (fM (fcheck k p m tg z) m) (fZ (fcheck k p m tg z) z) ((fR (fcheck k p m tg z) p tg z) ++ [⟨xk, xv⟩])) (mkind (fT (fcheck k p m tg z) k))), str (oP (mres (fT (fcheck k p m tg z) k) (fN (fcheck k p m tg z) p) (fP (fcheck k p m tg z) p) (fL (fcheck k p m tg z) tg) (fM (fcheck k p m tg z) m) (fZ (fcheck k p m tg z) z) ((fR (fcheck k p m tg z) p tg z) ++ [⟨xk, xv⟩]))), .int .i64 (oI (mres (fT (fcheck k p m tg z) k) (fN (fcheck k p m tg z) p) (fP (fcheck k p m tg z) p) (fL (fcheck k p m tg z) tg) (fM (fcheck k p m tg z) m) (fZ (fcheck k p m tg z) z) ((fR (fcheck k p m tg z) p tg z) ++ [⟨xk, xv⟩])) (fM (fcheck k p m tg z) m)), str (oT (mres (fT (fcheck k p m tg z) k) (fN (fcheck k p m tg z) p) (fP (fcheck k p m tg z) p) (fL (fcheck k p m tg z) tg) (fM (fcheck k p m tg z) m) (fZ (fcheck k p m tg z) z) ((fR (fcheck k p m tg z) p tg z) ++ [⟨xk, xv⟩]))), .int .i64 (oZ (mres (fT (fcheck k p m tg z) k) (fN (fcheck k p m tg z) p) (fP (fcheck k p m tg z) p) (fL (fcheck k p m tg z) tg) (fM (fcheck k p m tg z) m) (fZ (fcheck k p m tg z) z) ((fR (fcheck k p m tg z) p tg z) ++ [⟨xk, xv⟩])))]) rfl rfl) rfl rfl rfl ?_
      refine L_yld (Y_extract (v := .int .i64 (oE (mres (fT (fcheck k p m tg z) k) (fN (fcheck k p m tg z) p) (fP (fcheck k p m tg z) p) (fL (fcheck k p m tg z) tg) (fM (fcheck k p m tg z) m) (fZ (fcheck k p m tg z) z) ((fR (fcheck k p m tg z) p tg z) ++ [⟨xk, xv⟩])) ((fR (fcheck k p m tg z) p tg z) ++ [⟨xk, xv⟩]))) rfl rfl) rfl rfl rfl ?_
      refine L_mks (M_alloc (u := .agg #[.int .i64 0, str [], .int .i64 0, str [], .int .i64 0]) (by kernel_rfl)) rfl rfl rfl ?_
      rintro _ h37 ⟨rfl, hn69⟩
      have hk70 : Blk h37 h36.size [.int .i64 0, str [], .int .i64 0, str [], .int .i64 0] := hn69.blk
      refine L_dos (D_store (us := [.int .i64 (oI (mres (fT (fcheck k p m tg z) k) (fN (fcheck k p m tg z) p) (fP (fcheck k p m tg z) p) (fL (fcheck k p m tg z) tg) (fM (fcheck k p m tg z) m) (fZ (fcheck k p m tg z) z) ((fR (fcheck k p m tg z) p tg z) ++ [⟨xk, xv⟩])) (mkind (fT (fcheck k p m tg z) k))), str (oP (mres (fT (fcheck k p m tg z) k) (fN (fcheck k p m tg z) p) (fP (fcheck k p m tg z) p) (fL (fcheck k p m tg z) tg) (fM (fcheck k p m tg z) m) (fZ (fcheck k p m tg z) z) ((fR (fcheck k p m tg z) p tg z) ++ [⟨xk, xv⟩]))), .int .i64 (oI (mres (fT (fcheck k p m tg z) k) (fN (fcheck k p m tg z) p) (fP (fcheck k p m tg z) p) (fL (fcheck k p m tg z) tg) (fM (fcheck k p m tg z) m) (fZ (fcheck k p m tg z) z) ((fR (fcheck k p m tg z) p tg z) ++ [⟨xk, xv⟩])) (fM (fcheck k p m tg z) m)), str (oT (mres (fT (fcheck k p m tg z) k) (fN (fcheck k p m tg z) p) (fP (fcheck k p m tg z) p) (fL (fcheck k p m tg z) tg) (fM (fcheck k p m tg z) m) (fZ (fcheck k p m tg z) z) ((fR (fcheck k p m tg z) p tg z) ++ [⟨xk, xv⟩]))), .int .i64 (oZ (mres (fT (fcheck k p m tg z) k) (fN (fcheck k p m tg z) p) (fP (fcheck k p m tg z) p) (fL (fcheck k p m tg z) tg) (fM (fcheck k p m tg z) m) (fZ (fcheck k p m tg z) z) ((fR (fcheck k p m tg z) p tg z) ++ [⟨xk, xv⟩])))]) (show _ = some 5 by kernel_rfl) rfl rfl rfl (by simp [Value.oneCell']) hk70 (by simp)) rfl rfl ?_
      rintro h38 hp71
      have hk72 : Blk h38 h36.size [.int .i64 (oI (mres (fT (fcheck k p m tg z) k) (fN (fcheck k p m tg z) p) (fP (fcheck k p m tg z) p) (fL (fcheck k p m tg z) tg) (fM (fcheck k p m tg z) m) (fZ (fcheck k p m tg z) z) ((fR (fcheck k p m tg z) p tg z) ++ [⟨xk, xv⟩])) (mkind (fT (fcheck k p m tg z) k))), str (oP (mres (fT (fcheck k p m tg z) k) (fN (fcheck k p m tg z) p) (fP (fcheck k p m tg z) p) (fL (fcheck k p m tg z) tg) (fM (fcheck k p m tg z) m) (fZ (fcheck k p m tg z) z) ((fR (fcheck k p m tg z) p tg z) ++ [⟨xk, xv⟩]))), .int .i64 (oI (mres (fT (fcheck k p m tg z) k) (fN (fcheck k p m tg z) p) (fP (fcheck k p m tg z) p) (fL (fcheck k p m tg z) tg) (fM (fcheck k p m tg z) m) (fZ (fcheck k p m tg z) z) ((fR (fcheck k p m tg z) p tg z) ++ [⟨xk, xv⟩])) (fM (fcheck k p m tg z) m)), str (oT (mres (fT (fcheck k p m tg z) k) (fN (fcheck k p m tg z) p) (fP (fcheck k p m tg z) p) (fL (fcheck k p m tg z) tg) (fM (fcheck k p m tg z) m) (fZ (fcheck k p m tg z) z) ((fR (fcheck k p m tg z) p tg z) ++ [⟨xk, xv⟩]))), .int .i64 (oZ (mres (fT (fcheck k p m tg z) k) (fN (fcheck k p m tg z) p) (fP (fcheck k p m tg z) p) (fL (fcheck k p m tg z) tg) (fM (fcheck k p m tg z) m) (fZ (fcheck k p m tg z) z) ((fR (fcheck k p m tg z) p tg z) ++ [⟨xk, xv⟩])))] := hp71.blk
      refine L_yld (Y_assign rfl) rfl rfl rfl ?_
      refine L_nil ?_
      refine X_then ?_
      refine W_sub _ (.cons (i := 14) rfl (.cons (i := 13) rfl (.cons (i := 3) rfl (.nil _)))) ?_
      refine W_seq ?_
      refine W_region ?_
      refine L_call (E_call (by kernel_rfl) rfl) (law10_alive _ (hK.ext (((((((((((hn1.ext.trans hn3.ext).trans hx7).trans hn8.ext).then' hp10.only (by simp) (Nat.le_trans (Nat.le_trans hn1.ext.size hn3.ext.size) hx7.size)).trans hx15).trans hx).trans hx65).then' ha67.only ha67.ge (Nat.le_trans (Nat.le_trans (Nat.le_trans (Nat.le_trans (Nat.le_trans (Nat.le_trans hn1.ext.size hn3.ext.size) hx7.size) hn8.ext.size) hp10.only.size) hx15.size) hx.size)).trans hx68).trans hn69.ext).then' hp71.only (by simp) (Nat.le_trans (Nat.le_trans (Nat.le_trans (Nat.le_trans (Nat.le_trans (Nat.le_trans (Nat.le_trans (Nat.le_trans (Nat.le_trans hn1.ext.size hn3.ext.size) hx7.size) hn8.ext.size) hp10.only.size) hx15.size) hx.size) hx65.size) ha67.only.size) hx68.size))) (hN.ext (((((((((((hn1.ext.trans hn3.ext).trans hx7).trans hn8.ext).then' hp10.only (by simp) (Nat.le_trans (Nat.le_trans hn1.ext.size hn3.ext.size) hx7.size)).trans hx15).trans hx).trans hx65).then' ha67.only ha67.ge (Nat.le_trans (Nat.le_trans (Nat.le_trans (Nat.le_trans (Nat.le_trans (Nat.le_trans hn1.ext.size hn3.ext.size) hx7.size) hn8.ext.size) hp10.only.size) hx15.size) hx.size)).trans hx68).trans hn69.ext).then' hp71.only (by simp) (Nat.le_trans (Nat.le_trans (Nat.le_trans (Nat.le_trans (Nat.le_trans (Nat.le_trans (Nat.le_trans (Nat.le_trans (Nat.le_trans hn1.ext.size hn3.ext.size) hx7.size) hn8.ext.size) hp10.only.size) hx15.size) hx.size) hx65.size) ha67.only.size) hx68.size))) (hE.ext (((((((((((hn1.ext.trans hn3.ext).trans hx7).trans hn8.ext).then' hp10.only (by simp) (Nat.le_trans (Nat.le_trans hn1.ext.size hn3.ext.size) hx7.size)).trans hx15).trans hx).trans hx65).then' ha67.only ha67.ge (Nat.le_trans (Nat.le_trans (Nat.le_trans (Nat.le_trans (Nat.le_trans (Nat.le_trans hn1.ext.size hn3.ext.size) hx7.size) hn8.ext.size) hp10.only.size) hx15.size) hx.size)).trans hx68).trans hn69.ext).then' hp71.only (by simp) (Nat.le_trans (Nat.le_trans (Nat.le_trans (Nat.le_trans (Nat.le_trans (Nat.le_trans (Nat.le_trans (Nat.le_trans (Nat.le_trans hn1.ext.size hn3.ext.size) hx7.size) hn8.ext.size) hp10.only.size) hx15.size) hx.size) hx65.size) ha67.only.size) hx68.size))) (hT.ext (((((((((((hn1.ext.trans hn3.ext).trans hx7).trans hn8.ext).then' hp10.only (by simp) (Nat.le_trans (Nat.le_trans hn1.ext.size hn3.ext.size) hx7.size)).trans hx15).trans hx).trans hx65).then' ha67.only ha67.ge (Nat.le_trans (Nat.le_trans (Nat.le_trans (Nat.le_trans (Nat.le_trans (Nat.le_trans hn1.ext.size hn3.ext.size) hx7.size) hn8.ext.size) hp10.only.size) hx15.size) hx.size)).trans hx68).trans hn69.ext).then' hp71.only (by simp) (Nat.le_trans (Nat.le_trans (Nat.le_trans (Nat.le_trans (Nat.le_trans (Nat.le_trans (Nat.le_trans (Nat.le_trans (Nat.le_trans hn1.ext.size hn3.ext.size) hx7.size) hn8.ext.size) hp10.only.size) hx15.size) hx.size) hx65.size) ha67.only.size) hx68.size)))) rfl rfl rfl ?_
      rintro _ h39 ⟨rfl, hx73⟩
      refine L_yld (Y_move rfl) rfl rfl rfl ?_
      refine L_yld (Y_move rfl) rfl rfl rfl ?_
      refine L_yld (Y_eql rfl rfl) rfl rfl rfl ?_
      refine L_yld (Y_move rfl) rfl rfl rfl ?_
      refine L_splitd (d := 127) rfl (fun y2 => ?_) (fun y2 => ?_)
      · refine L_skip rfl rfl rfl ?_
        refine L_skip rfl rfl rfl ?_
        refine L_skip rfl rfl rfl ?_
        refine L_skip rfl rfl rfl ?_
        refine L_skip rfl rfl rfl ?_
        refine L_skip rfl rfl rfl ?_
        refine L_skip rfl rfl rfl ?_
        refine L_skip rfl rfl rfl ?_
        refine L_skip rfl rfl rfl ?_
        refine L_skip rfl rfl rfl ?_
        refine L_skip rfl rfl rfl ?_
        refine L_skip rfl rfl rfl ?_
        refine L_yld (Y_pick_t rfl rfl) rfl rfl rfl ?_
        refine L_yld (Y_pick_t rfl rfl) rfl rfl rfl ?_
        refine L_yld (Y_assign rfl) rfl rfl rfl ?_
        refine L_nil ?_
        refine X_then ?_
        refine W_sub _ (.cons (i := 4) rfl (.nil _)) ?_
        refine W_ret ?_
        refine X_ret1 rfl rfl ?_
        exact ⟨rfl, ((((((((((((hn1.ext.trans hn3.ext).trans hx7).trans hn8.ext).then' hp10.only (by simp) (Nat.le_trans (Nat.le_trans hn1.ext.size hn3.ext.size) hx7.size)).trans hx15).trans hx).trans hx65).then' ha67.only ha67.ge (Nat.le_trans (Nat.le_trans (Nat.le_trans (Nat.le_trans (Nat.le_trans (Nat.le_trans hn1.ext.size hn3.ext.size) hx7.size) hn8.ext.size) hp10.only.size) hx15.size) hx.size)).trans hx68).trans hn69.ext).then' hp71.only (by simp) (Nat.le_trans (Nat.le_trans (Nat.le_trans (Nat.le_trans (Nat.le_trans (Nat.le_trans (Nat.le_trans (Nat.le_trans (Nat.le_trans hn1.ext.size hn3.ext.size) hx7.size) hn8.ext.size) hp10.only.size) hx15.size) hx.size) hx65.size) ha67.only.size) hx68.size)).trans hx73)⟩
      · refine L_yld (Y_move rfl) rfl rfl rfl ?_
        refine L_yld (Y_eql rfl rfl) rfl rfl rfl ?_
        refine L_yld (Y_move rfl) rfl rfl rfl ?_
        refine L_known (d := 130) true rfl (by exact decide_eq_true (by exact (more_ok e0 y2).1)) ?_
        refine L_yld (Y_fieldAddr (off := 0) (by kernel_rfl) rfl rfl) rfl rfl rfl ?_
        refine L_yld (Y_ldblk Tryd.underlying9 rfl rfl (hk4.ext ((((((((((hx7.trans hn8.ext).then' hp10.only (by simp) hx7.size).trans hx15).trans hx).trans hx65).then' ha67.only ha67.ge (Nat.le_trans (Nat.le_trans (Nat.le_trans (Nat.le_trans hx7.size hn8.ext.size) hp10.only.size) hx15.size) hx.size)).trans hx68).trans hn69.ext).then' hp71.only (by simp) (Nat.le_trans (Nat.le_trans (Nat.le_trans (Nat.le_trans (Nat.le_trans (Nat.le_trans (Nat.le_trans hx7.size hn8.ext.size) hp10.only.size) hx15.size) hx.size) hx65.size) ha67.only.size) hx68.size)).trans hx73)) rfl) rfl rfl rfl ?_
        refine L_yld (Y_seql rfl rfl) rfl rfl rfl ?_
        refine L_yld (Y_pick_t rfl rfl) rfl rfl rfl ?_
        refine L_yld (Y_move rfl) rfl rfl rfl ?_
        refine L_known (d := 135) true rfl (by exact decide_eq_true (by exact (more_ok e0 y2).2.1)) ?_
        refine L_yld (Y_fieldAddr (off := 4) (by kernel_rfl) rfl rfl) rfl rfl rfl ?_
        refine L_yld (Y_ldblk Tryd.underlying2 rfl rfl (hk72.ext hx73) rfl) rfl rfl rfl ?_
        refine L_yld (Y_gtr rfl rfl) rfl rfl rfl ?_
        refine L_yld (Y_pick_t rfl rfl) rfl rfl rfl ?_
        refine L_yld (Y_pick_f rfl rfl) rfl rfl rfl ?_
        refine L_yld (Y_pick_t rfl rfl) rfl rfl rfl ?_
        refine L_yld (Y_assign rfl) rfl rfl rfl ?_
        refine L_nil ?_
        refine X_then ?_
        refine W_sub _ (.cons (i := 4) rfl (.nil _)) ?_
        refine W_ret ?_
        refine X_ret1 rfl rfl ?_
        exact ⟨congrArg Value.bool (decide_eq_true (more_ok e0 y2).2.2), ((((((((((((hn1.ext.trans hn3.ext).trans hx7).trans hn8.ext).then' hp10.only (by simp) (Nat.le_trans (Nat.le_trans hn1.ext.size hn3.ext.size) hx7.size)).trans hx15).trans hx).trans hx65).then' ha67.only ha67.ge (Nat.le_trans (Nat.le_trans (Nat.le_trans (Nat.le_trans (Nat.le_trans (Nat.le_trans hn1.ext.size hn3.ext.size) hx7.size) hn8.ext.size) hp10.only.size) hx15.size) hx.size)).trans hx68).trans hn69.ext).then' hp71.only (by simp) (Nat.le_trans (Nat.le_trans (Nat.le_trans (Nat.le_trans (Nat.le_trans (Nat.le_trans (Nat.le_trans (Nat.le_trans (Nat.le_trans hn1.ext.size hn3.ext.size) hx7.size) hn8.ext.size) hp10.only.size) hx15.size) hx.size) hx65.size) ha67.only.size) hx68.size)).trans hx73)⟩
end Go.Xp
