/- Layer 10 (fit): what a plan tells of its entry. -/
import Derived.Test.YtkcgabodpcfohaaDoorFitL
import Derived.Test.YtkcgabodpcfohaaDoorPathLaw
set_option linter.unusedSimpArgs false
set_option linter.unusedVariables false
set_option linter.unusedSectionVars false
namespace Go.Xp
open Go.Proofs

theorem decN_dec : ∀ u : Nat, decN (Lib.decDigits u) = u := by
  intro u
  induction u using Nat.strongRecOn with
  | ind u ih =>
    rcases Nat.lt_or_ge u 10 with h | h
    · rw [Lib.decDigits_one h]
      have : (UInt8.ofNat (48 + u)).toNat = 48 + u := by rw [UInt8.toNat_ofNat']; omega
      show 0 * 10 + ((UInt8.ofNat (48 + u)).toNat - 48) = u
      rw [this]; omega
    · rw [decDigits_step h, decN_snoc, ih (u / 10) (by omega)]
      have : (UInt8.ofNat (48 + u % 10)).toNat = 48 + u % 10 := by rw [UInt8.toNat_ofNat']; omega
      rw [this]; omega
theorem dec_inj {a b : Nat} (h : Lib.decDigits a = Lib.decDigits b) : a = b := by rw [← decN_dec a, h, decN_dec]
/-- The value of the first record with the key. -/
def rget : List Rec → List UInt8 → Option (List UInt8)
  | [], _ => none
  | r :: l, k => if r.key = k then some r.val else rget l k
theorem rget_link (p tg : List UInt8) (z : Int) : rget (frecs p tg z) [108, 105, 110, 107, 112, 97, 116, 104] = if 100 < tg.length then some tg else none := by
  unfold frecs; split <;> split <;> split <;> simp [rget]
theorem rget_path (p tg : List UInt8) (z : Int) : rget (frecs p tg z) [112, 97, 116, 104] = if sok p = true then none else some p := by
  unfold frecs; split <;> split <;> split <;> simp [rget]
theorem rget_size (p tg : List UInt8) (z : Int) : rget (frecs p tg z) [115, 105, 122, 101] = if 8589934591 < z then some (Lib.decDigits z.toNat) else none := by
  unfold frecs; split <;> split <;> split <;> simp [rget]
theorem ftyp_inj {a b : Int} (ha : 0 ≤ a ∧ a ≤ 3) (hb : 0 ≤ b ∧ b ≤ 3) (h : ftyp a = ftyp b) : a = b := by
  obtain ⟨i, rfl⟩ := Int.eq_ofNat_of_zero_le ha.1
  obtain ⟨j, rfl⟩ := Int.eq_ofNat_of_zero_le hb.1
  have hi : i < 4 := by omega
  have hj : j < 4 := by omega
  have key : ∀ i j : Fin 4, byt [53, 48, 50, 49] i.val = byt [53, 48, 50, 49] j.val → i = j := by decide
  have := key ⟨i, hi⟩ ⟨j, hj⟩ h
  simp at this; omega
theorem path_of {p q : List UInt8} (h1 : snam p = snam q) (h2 : spre p = spre q) (h3 : (if sok p = true then none else some p) = if sok q = true then none else some q) : p = q := by
  by_cases hp : sok p = true
  · by_cases hq : sok q = true
    · rw [← (join_split hp).1, ← (join_split hq).1, h1, h2]
    · rw [if_pos hp, if_neg hq] at h3; cases h3
  · by_cases hq : sok q = true
    · rw [if_neg hp, if_pos hq] at h3; cases h3
    · rw [if_neg hp, if_neg hq] at h3; exact Option.some.inj h3
theorem link_of {a b : List UInt8} (h1 : (if 100 < a.length then ([] : List UInt8) else a) = if 100 < b.length then [] else b) (h3 : (if 100 < a.length then some a else none) = if 100 < b.length then some b else none) : a = b := by
  by_cases ha : 100 < a.length
  · by_cases hb : 100 < b.length
    · rw [if_pos ha, if_pos hb] at h3; exact Option.some.inj h3
    · rw [if_pos ha, if_neg hb] at h3; cases h3
  · by_cases hb : 100 < b.length
    · rw [if_neg ha, if_pos hb] at h3; cases h3
    · rw [if_neg ha, if_neg hb] at h1; exact h1
theorem size_of {a b : Int} (h1 : (if 8589934591 < a then (0 : Int) else a) = if 8589934591 < b then 0 else b) (h3 : (if 8589934591 < a then some (Lib.decDigits a.toNat) else none) = if 8589934591 < b then some (Lib.decDigits b.toNat) else none) : a = b := by
  by_cases ha : 8589934591 < a
  · by_cases hb : 8589934591 < b
    · rw [if_pos ha, if_pos hb] at h3; have := dec_inj (Option.some.inj h3); omega
    · rw [if_pos ha, if_neg hb] at h3; cases h3
  · by_cases hb : 8589934591 < b
    · rw [if_neg ha, if_pos hb] at h3; cases h3
    · rw [if_neg ha, if_neg hb] at h1; exact h1
abbrev hdEq (c k : Int) (p : List UInt8) (m : Int) (tg : List UInt8) (z c' k' : Int) (p' : List UInt8) (m' : Int) (tg' : List UInt8) (z' : Int) : Prop :=
  fT c k = fT c' k' ∧ fN c p = fN c' p' ∧ fP c p = fP c' p' ∧ fL c tg = fL c' tg' ∧ fM c m = fM c' m' ∧ fZ c z = fZ c' z'
theorem plan_inj {k m z k' m' z' : Int} {p tg p' tg' : List UInt8} (e : fcheck k p m tg z = 0) (e' : fcheck k' p' m' tg' z' = 0) (h : hdEq (fcheck k p m tg z) k p m tg z (fcheck k' p' m' tg' z') k' p' m' tg' z') (hr : fR (fcheck k p m tg z) p tg z = fR (fcheck k' p' m' tg' z') p' tg' z') :
    k = k' ∧ p = p' ∧ m = m' ∧ tg = tg' ∧ z = z' := by
  obtain ⟨h1, h2, h3, h4, h5, h6⟩ := h
  rw [e, e'] at h1 h2 h3 h4 h5 h6 hr
  simp only [fT, fN, fP, fL, fM, fZ, fR, if_pos] at h1 h2 h3 h4 h5 h6 hr
  refine ⟨ftyp_inj (fcheck_kind e) (fcheck_kind e') h1, path_of h2 h3 ?_, h5, link_of h4 ?_, size_of h6 ?_⟩
  · rw [← rget_path p tg z, ← rget_path p' tg' z', hr]
  · rw [← rget_link p tg z, ← rget_link p' tg' z', hr]
  · rw [← rget_size p tg z, ← rget_size p' tg' z', hr]

set_option maxRecDepth 100000 in
theorem fitIsInjectiveE (h : Heap) (hK : GlbK h) (hN : GlbN h) (hE : GlbE h) (hT : GlbT h) (k : Int) (p : List UInt8) (m : Int) (tg : List UInt8) (z : Int) (k' : Int) (p' : List UInt8) (m' : Int) (tg' : List UInt8) (z' : Int) (hk : -9223372036854775808 ≤ k ∧ k ≤ 9223372036854775807) (hp : p.length ≤ 140737488355328) (hm : -9223372036854775808 ≤ m ∧ m ≤ 9223372036854775807) (ht : tg.length ≤ 140737488355328) (hz : -9223372036854775808 ≤ z ∧ z ≤ 9223372036854775807) (hk' : -9223372036854775808 ≤ k' ∧ k' ≤ 9223372036854775807) (hp' : p'.length ≤ 140737488355328) (hm' : -9223372036854775808 ≤ m' ∧ m' ≤ 9223372036854775807) (ht' : tg'.length ≤ 140737488355328) (hz' : -9223372036854775808 ≤ z' ∧ z' ≤ 9223372036854775807) (hq : hdEq (fcheck k p m tg z) k p m tg z (fcheck k' p' m' tg' z') k' p' m' tg' z') : Cal Tryd.prog 10 #[.agg #[.int .i64 (k), str p, .int .i64 (m), str tg, .int .i64 (z)], .agg #[.int .i64 (k'), str p', .int .i64 (m'), str tg', .int .i64 (z')]] h (fun v h' => v = .bool true ∧ Ext h h') := by
  refine Cal_enter (args := [.agg #[.int .i64 (k), str p, .int .i64 (m), str tg, .int .i64 (z)], .agg #[.int .i64 (k'), str p', .int .i64 (m'), str tg', .int .i64 (z')]]) Tryd.func10 rfl rfl rfl (fun σ => ?_)
  refine W_seq ?_
  refine W_region ?_
  refine L_mks (M_box rfl) rfl rfl rfl ?_
  rintro _ h1 ⟨rfl, hn1⟩
  have hk2 : Blk h1 h.size [.int .i64 (k), str p, .int .i64 (m), str tg, .int .i64 (z)] := hn1.blk
  refine L_mks (M_box rfl) rfl rfl rfl ?_
  rintro _ h2 ⟨rfl, hn3⟩
  have hk4 : Blk h2 h1.size [.int .i64 (k'), str p', .int .i64 (m'), str tg', .int .i64 (z')] := hn3.blk
  refine L_yld (Y_assign rfl) rfl rfl rfl ?_
  refine L_nil ?_
  refine X_then ?_
  refine W_sub _ (.cons (i := 4) rfl (.cons (i := 3) rfl (.cons (i := 2) rfl (.nil _)))) ?_
  refine W_seq ?_
  refine W_cut (S := Unit) (fun _ => [(18, .bool (decide ((0 < (if 70000 < p.length + tg.length then 1 else 0 : Int)) ∨ (0 < (if 70000 < p'.length + tg'.length then 1 else 0 : Int))))), (4, .bool false), (3, .pointer (some ⟨h1.size, 0, none⟩)), (2, .pointer (some ⟨h.size, 0, none⟩))]) (fun _ h' => Ext h2 h') ?_ ?_
  · refine W_region ?_
    refine L_yld (Y_ldbox (us := [.int .i64 (k), str p, .int .i64 (m), str tg, .int .i64 (z)]) Tryd.underlying46 rfl (show _ = some 5 by kernel_rfl) rfl (hk2.ext hn3.ext) rfl) rfl rfl rfl ?_
    refine L_call (E_call (by kernel_rfl) rfl) (law10_TooLarge _ k p m tg z (by first | first | omega | (exact Nat.le_trans (fR_len _ _ _ _) (by decide)) | rfl | (simp <;> omega)) (by first | first | omega | (exact Nat.le_trans (fR_len _ _ _ _) (by decide)) | rfl | (simp <;> omega))) rfl rfl rfl ?_
    rintro _ h3 ⟨rfl, hx5⟩
    refine L_yld (Y_gtr rfl rfl) rfl rfl rfl ?_
    refine L_yld (Y_move rfl) rfl rfl rfl ?_
    refine L_splitd (d := 14) rfl (fun c6 => ?_) (fun c6 => ?_)
    · refine L_skip rfl rfl rfl ?_
      refine L_skip rfl rfl rfl ?_
      refine L_skip rfl rfl rfl ?_
      refine L_yld (Y_pick_t rfl rfl) rfl rfl rfl ?_
      refine L_nil ?_
      exact X_cut () (.cons (i := 18) (lkb rfl (by simp only [eq_true c6, true_and, and_true, false_and, and_false, true_or, or_true, false_or, or_false, not_true_eq_false, not_false_eq_true, decide_true, decide_false, Bool.true_eq_false, Bool.false_eq_true, eq_self, Bool.decide_eq_true])) (.cons (i := 4) rfl (.cons (i := 3) rfl (.cons (i := 2) rfl (.nil _))))) hx5
    · refine L_yld (Y_ldbox (us := [.int .i64 (k'), str p', .int .i64 (m'), str tg', .int .i64 (z')]) Tryd.underlying46 rfl (show _ = some 5 by kernel_rfl) rfl (hk4.ext hx5) rfl) rfl rfl rfl ?_
      refine L_call (E_call (by kernel_rfl) rfl) (law10_TooLarge _ k' p' m' tg' z' (by first | first | omega | (exact Nat.le_trans (fR_len _ _ _ _) (by decide)) | rfl | (simp <;> omega)) (by first | first | omega | (exact Nat.le_trans (fR_len _ _ _ _) (by decide)) | rfl | (simp <;> omega))) rfl rfl rfl ?_
      rintro _ h4 ⟨rfl, hx7⟩
      refine L_yld (Y_gtr rfl rfl) rfl rfl rfl ?_
      refine L_yld (Y_pick_f rfl rfl) rfl rfl rfl ?_
      refine L_nil ?_
      exact X_cut () (.cons (i := 18) (lkb rfl (by simp only [eq_false c6, true_and, and_true, false_and, and_false, true_or, or_true, false_or, or_false, not_true_eq_false, not_false_eq_true, decide_true, decide_false, Bool.true_eq_false, Bool.false_eq_true, eq_self, Bool.decide_eq_true])) (.cons (i := 4) rfl (.cons (i := 3) rfl (.cons (i := 2) rfl (.nil _))))) (hx5.trans hx7)
  rintro _ h5 hx8
  show W _ _ _ _ _ [(18, .bool (decide ((0 < (if 70000 < p.length + tg.length then 1 else 0 : Int)) ∨ (0 < (if 70000 < p'.length + tg'.length then 1 else 0 : Int))))), (4, .bool false), (3, .pointer (some ⟨h1.size, 0, none⟩)), (2, .pointer (some ⟨h.size, 0, none⟩))] _
  refine W_splitd rfl (fun g => ?_) (fun g => ?_)
  · refine W_seq ?_
    refine W_region ?_
    refine L_call (E_call (by kernel_rfl) rfl) (law10_alive _ (hK.ext ((hn1.ext.trans hn3.ext).trans hx8)) (hN.ext ((hn1.ext.trans hn3.ext).trans hx8)) (hE.ext ((hn1.ext.trans hn3.ext).trans hx8)) (hT.ext ((hn1.ext.trans hn3.ext).trans hx8))) rfl rfl rfl ?_
    rintro _ h6 ⟨rfl, hx9⟩
    refine L_yld (Y_assign rfl) rfl rfl rfl ?_
    refine L_nil ?_
    refine X_then ?_
    refine W_sub _ (.cons (i := 4) rfl (.cons (i := 3) rfl (.cons (i := 2) rfl (.nil _)))) ?_
    refine W_ret ?_
    refine X_then_ret ?_
    refine X_ret1 rfl rfl ?_
    exact ⟨rfl, (((hn1.ext.trans hn3.ext).trans hx8).trans hx9)⟩
  · refine W_skip ?_
    refine X_then ?_
    refine W_sub _ (.cons (i := 4) rfl (.cons (i := 3) rfl (.cons (i := 2) rfl (.nil _)))) ?_
    refine W_seq ?_
    refine W_region ?_
    refine L_yld (Y_ldbox (us := [.int .i64 (k), str p, .int .i64 (m), str tg, .int .i64 (z)]) Tryd.underlying46 rfl (show _ = some 5 by kernel_rfl) rfl (hk2.ext (hn3.ext.trans hx8)) rfl) rfl rfl rfl ?_
    refine L_call (E_call (by kernel_rfl) rfl) (fit_Plan _ (hK.ext ((hn1.ext.trans hn3.ext).trans hx8)) (hN.ext ((hn1.ext.trans hn3.ext).trans hx8)) (hE.ext ((hn1.ext.trans hn3.ext).trans hx8)) (hT.ext ((hn1.ext.trans hn3.ext).trans hx8)) k p m tg z (by first | first | omega | (exact Nat.le_trans (fR_len _ _ _ _) (by decide)) | rfl | (simp <;> omega)) (by first | first | omega | (exact Nat.le_trans (fR_len _ _ _ _) (by decide)) | rfl | (simp <;> omega)) (by first | first | omega | (exact Nat.le_trans (fR_len _ _ _ _) (by decide)) | rfl | (simp <;> omega))) rfl rfl rfl ?_
    rintro _ h7 ⟨s110, rfl, hr111, hx12⟩
    refine L_yld (Y_move rfl) rfl rfl rfl ?_
    refine L_yld (Y_extract (v := .agg #[.int .u8 (fT (fcheck k p m tg z) k), str (fN (fcheck k p m tg z) p), str (fP (fcheck k p m tg z) p), str (fL (fcheck k p m tg z) tg), .int .i64 (fM (fcheck k p m tg z) m), .int .i64 (fZ (fcheck k p m tg z) z)]) rfl rfl) rfl rfl rfl ?_
    refine L_yld (Y_extract (v := s110) rfl rfl) rfl rfl rfl ?_
    refine L_yld (Y_extract (v := .int .i64 (fcheck k p m tg z)) rfl rfl) rfl rfl rfl ?_
    refine L_mks (M_alloc (u := .agg #[.int .u8 0, str [], str [], str [], .int .i64 0, .int .i64 0]) (by kernel_rfl)) rfl rfl rfl ?_
    rintro _ h8 ⟨rfl, hn13⟩
    have hk14 : Blk h8 h7.size [.int .u8 0, str [], str [], str [], .int .i64 0, .int .i64 0] := hn13.blk
    refine L_dos (D_store (us := [.int .u8 (fT (fcheck k p m tg z) k), str (fN (fcheck k p m tg z) p), str (fP (fcheck k p m tg z) p), str (fL (fcheck k p m tg z) tg), .int .i64 (fM (fcheck k p m tg z) m), .int .i64 (fZ (fcheck k p m tg z) z)]) (show _ = some 6 by kernel_rfl) rfl rfl rfl (by simp [Value.oneCell']) hk14 (by simp)) rfl rfl ?_
    rintro h9 hp15
    have hk16 : Blk h9 h7.size [.int .u8 (fT (fcheck k p m tg z) k), str (fN (fcheck k p m tg z) p), str (fP (fcheck k p m tg z) p), str (fL (fcheck k p m tg z) tg), .int .i64 (fM (fcheck k p m tg z) m), .int .i64 (fZ (fcheck k p m tg z) z)] := hp15.blk
    refine L_yld (Y_assign rfl) rfl rfl rfl ?_
    refine L_yld (Y_assign rfl) rfl rfl rfl ?_
    refine L_nil ?_
    refine X_then ?_
    refine W_sub _ (.cons (i := 7) rfl (.cons (i := 6) rfl (.cons (i := 5) rfl (.cons (i := 4) rfl (.cons (i := 3) rfl (.cons (i := 2) rfl (.nil _))))))) ?_
    refine W_seq ?_
    refine W_region ?_
    refine L_yld (Y_ldbox (us := [.int .i64 (k'), str p', .int .i64 (m'), str tg', .int .i64 (z')]) Tryd.underlying46 rfl (show _ = some 5 by kernel_rfl) rfl (hk4.ext (((hx8.trans hx12).trans hn13.ext).then' hp15.only (by simp) (Nat.le_trans hx8.size hx12.size))) rfl) rfl rfl rfl ?_
    refine L_call (E_call (by kernel_rfl) rfl) (fit_Plan _ (hK.ext (((((hn1.ext.trans hn3.ext).trans hx8).trans hx12).trans hn13.ext).then' hp15.only (by simp) (Nat.le_trans (Nat.le_trans (Nat.le_trans hn1.ext.size hn3.ext.size) hx8.size) hx12.size))) (hN.ext (((((hn1.ext.trans hn3.ext).trans hx8).trans hx12).trans hn13.ext).then' hp15.only (by simp) (Nat.le_trans (Nat.le_trans (Nat.le_trans hn1.ext.size hn3.ext.size) hx8.size) hx12.size))) (hE.ext (((((hn1.ext.trans hn3.ext).trans hx8).trans hx12).trans hn13.ext).then' hp15.only (by simp) (Nat.le_trans (Nat.le_trans (Nat.le_trans hn1.ext.size hn3.ext.size) hx8.size) hx12.size))) (hT.ext (((((hn1.ext.trans hn3.ext).trans hx8).trans hx12).trans hn13.ext).then' hp15.only (by simp) (Nat.le_trans (Nat.le_trans (Nat.le_trans hn1.ext.size hn3.ext.size) hx8.size) hx12.size))) k' p' m' tg' z' (by first | first | omega | (exact Nat.le_trans (fR_len _ _ _ _) (by decide)) | rfl | (simp <;> omega)) (by first | first | omega | (exact Nat.le_trans (fR_len _ _ _ _) (by decide)) | rfl | (simp <;> omega)) (by first | first | omega | (exact Nat.le_trans (fR_len _ _ _ _) (by decide)) | rfl | (simp <;> omega))) rfl rfl rfl ?_
    rintro _ h10 ⟨s117, rfl, hr118, hx19⟩
    refine L_yld (Y_move rfl) rfl rfl rfl ?_
    refine L_yld (Y_extract (v := .agg #[.int .u8 (fT (fcheck k' p' m' tg' z') k'), str (fN (fcheck k' p' m' tg' z') p'), str (fP (fcheck k' p' m' tg' z') p'), str (fL (fcheck k' p' m' tg' z') tg'), .int .i64 (fM (fcheck k' p' m' tg' z') m'), .int .i64 (fZ (fcheck k' p' m' tg' z') z')]) rfl rfl) rfl rfl rfl ?_
    refine L_yld (Y_extract (v := s117) rfl rfl) rfl rfl rfl ?_
    refine L_yld (Y_extract (v := .int .i64 (fcheck k' p' m' tg' z')) rfl rfl) rfl rfl rfl ?_
    refine L_mks (M_alloc (u := .agg #[.int .u8 0, str [], str [], str [], .int .i64 0, .int .i64 0]) (by kernel_rfl)) rfl rfl rfl ?_
    rintro _ h11 ⟨rfl, hn20⟩
    have hk21 : Blk h11 h10.size [.int .u8 0, str [], str [], str [], .int .i64 0, .int .i64 0] := hn20.blk
    refine L_dos (D_store (us := [.int .u8 (fT (fcheck k' p' m' tg' z') k'), str (fN (fcheck k' p' m' tg' z') p'), str (fP (fcheck k' p' m' tg' z') p'), str (fL (fcheck k' p' m' tg' z') tg'), .int .i64 (fM (fcheck k' p' m' tg' z') m'), .int .i64 (fZ (fcheck k' p' m' tg' z') z')]) (show _ = some 6 by kernel_rfl) rfl rfl rfl (by simp [Value.oneCell']) hk21 (by simp)) rfl rfl ?_
    rintro h12 hp22
    have hk23 : Blk h12 h10.size [.int .u8 (fT (fcheck k' p' m' tg' z') k'), str (fN (fcheck k' p' m' tg' z') p'), str (fP (fcheck k' p' m' tg' z') p'), str (fL (fcheck k' p' m' tg' z') tg'), .int .i64 (fM (fcheck k' p' m' tg' z') m'), .int .i64 (fZ (fcheck k' p' m' tg' z') z')] := hp22.blk
    refine L_yld (Y_assign rfl) rfl rfl rfl ?_
    refine L_yld (Y_assign rfl) rfl rfl rfl ?_
    refine L_nil ?_
    refine X_then ?_
    refine W_sub _ (.cons (i := 10) rfl (.cons (i := 9) rfl (.cons (i := 8) rfl (.cons (i := 7) rfl (.cons (i := 6) rfl (.cons (i := 5) rfl (.cons (i := 4) rfl (.cons (i := 3) rfl (.cons (i := 2) rfl (.nil _)))))))))) ?_
    refine W_seq ?_
    refine W_cut (S := Unit) (fun _ => [(37, .bool (decide ((¬ (fcheck k p m tg z) = 0) ∨ (¬ (fcheck k' p' m' tg' z') = 0)))), (9, s117), (8, .pointer (some ⟨h10.size, 0, none⟩)), (6, s110), (5, .pointer (some ⟨h7.size, 0, none⟩)), (4, .bool false), (3, .pointer (some ⟨h1.size, 0, none⟩)), (2, .pointer (some ⟨h.size, 0, none⟩))]) (fun _ h' => h' = h12) ?_ ?_
    · refine W_region ?_
      refine L_yld (Y_move rfl) rfl rfl rfl ?_
      refine L_yld (Y_neq rfl rfl) rfl rfl rfl ?_
      refine L_yld (Y_move rfl) rfl rfl rfl ?_
      refine L_splitd (d := 34) rfl (fun c24 => ?_) (fun c24 => ?_)
      · refine L_skip rfl rfl rfl ?_
        refine L_skip rfl rfl rfl ?_
        refine L_yld (Y_pick_t rfl rfl) rfl rfl rfl ?_
        refine L_nil ?_
        exact X_cut () (.cons (i := 37) (lkb rfl (by simp only [eq_true c24, true_and, and_true, false_and, and_false, true_or, or_true, false_or, or_false, not_true_eq_false, not_false_eq_true, decide_true, decide_false, Bool.true_eq_false, Bool.false_eq_true, eq_self, Bool.decide_eq_true])) (.cons (i := 9) rfl (.cons (i := 8) rfl (.cons (i := 6) rfl (.cons (i := 5) rfl (.cons (i := 4) rfl (.cons (i := 3) rfl (.cons (i := 2) rfl (.nil _))))))))) rfl
      · refine L_yld (Y_move rfl) rfl rfl rfl ?_
        refine L_yld (Y_neq rfl rfl) rfl rfl rfl ?_
        refine L_yld (Y_pick_f rfl rfl) rfl rfl rfl ?_
        refine L_nil ?_
        exact X_cut () (.cons (i := 37) (lkb rfl (by simp only [eq_false c24, true_and, and_true, false_and, and_false, true_or, or_true, false_or, or_false, not_true_eq_false, not_false_eq_true, decide_true, decide_false, Bool.true_eq_false, Bool.false_eq_true, eq_self, Bool.decide_eq_true])) (.cons (i := 9) rfl (.cons (i := 8) rfl (.cons (i := 6) rfl (.cons (i := 5) rfl (.cons (i := 4) rfl (.cons (i := 3) rfl (.cons (i := 2) rfl (.nil _))))))))) rfl
    rintro _ h12 rfl
    show W _ _ _ _ _ [(37, .bool (decide ((¬ (fcheck k p m tg z) = 0) ∨ (¬ (fcheck k' p' m' tg' z') = 0)))), (9, s117), (8, .pointer (some ⟨h10.size, 0, none⟩)), (6, s110), (5, .pointer (some ⟨h7.size, 0, none⟩)), (4, .bool false), (3, .pointer (some ⟨h1.size, 0, none⟩)), (2, .pointer (some ⟨h.size, 0, none⟩))] _
    refine W_splitd rfl (fun x => ?_) (fun x => ?_)
    · refine W_seq ?_
      refine W_region ?_
      refine L_call (E_call (by kernel_rfl) rfl) (law10_alive _ (hK.ext ((((((((hn1.ext.trans hn3.ext).trans hx8).trans hx12).trans hn13.ext).then' hp15.only (by simp) (Nat.le_trans (Nat.le_trans (Nat.le_trans hn1.ext.size hn3.ext.size) hx8.size) hx12.size)).trans hx19).trans hn20.ext).then' hp22.only (by simp) (Nat.le_trans (Nat.le_trans (Nat.le_trans (Nat.le_trans (Nat.le_trans (Nat.le_trans hn1.ext.size hn3.ext.size) hx8.size) hx12.size) hn13.ext.size) hp15.only.size) hx19.size))) (hN.ext ((((((((hn1.ext.trans hn3.ext).trans hx8).trans hx12).trans hn13.ext).then' hp15.only (by simp) (Nat.le_trans (Nat.le_trans (Nat.le_trans hn1.ext.size hn3.ext.size) hx8.size) hx12.size)).trans hx19).trans hn20.ext).then' hp22.only (by simp) (Nat.le_trans (Nat.le_trans (Nat.le_trans (Nat.le_trans (Nat.le_trans (Nat.le_trans hn1.ext.size hn3.ext.size) hx8.size) hx12.size) hn13.ext.size) hp15.only.size) hx19.size))) (hE.ext ((((((((hn1.ext.trans hn3.ext).trans hx8).trans hx12).trans hn13.ext).then' hp15.only (by simp) (Nat.le_trans (Nat.le_trans (Nat.le_trans hn1.ext.size hn3.ext.size) hx8.size) hx12.size)).trans hx19).trans hn20.ext).then' hp22.only (by simp) (Nat.le_trans (Nat.le_trans (Nat.le_trans (Nat.le_trans (Nat.le_trans (Nat.le_trans hn1.ext.size hn3.ext.size) hx8.size) hx12.size) hn13.ext.size) hp15.only.size) hx19.size))) (hT.ext ((((((((hn1.ext.trans hn3.ext).trans hx8).trans hx12).trans hn13.ext).then' hp15.only (by simp) (Nat.le_trans (Nat.le_trans (Nat.le_trans hn1.ext.size hn3.ext.size) hx8.size) hx12.size)).trans hx19).trans hn20.ext).then' hp22.only (by simp) (Nat.le_trans (Nat.le_trans (Nat.le_trans (Nat.le_trans (Nat.le_trans (Nat.le_trans hn1.ext.size hn3.ext.size) hx8.size) hx12.size) hn13.ext.size) hp15.only.size) hx19.size)))) rfl rfl rfl ?_
      rintro _ h13 ⟨rfl, hx25⟩
      refine L_yld (Y_assign rfl) rfl rfl rfl ?_
      refine L_nil ?_
      refine X_then ?_
      refine W_sub _ (.cons (i := 4) rfl (.cons (i := 9) rfl (.cons (i := 8) rfl (.cons (i := 6) rfl (.cons (i := 5) rfl (.cons (i := 3) rfl (.cons (i := 2) rfl (.nil _)))))))) ?_
      refine W_ret ?_
      refine X_then_ret ?_
      refine X_ret1 rfl rfl ?_
      exact ⟨rfl, (((((((((hn1.ext.trans hn3.ext).trans hx8).trans hx12).trans hn13.ext).then' hp15.only (by simp) (Nat.le_trans (Nat.le_trans (Nat.le_trans hn1.ext.size hn3.ext.size) hx8.size) hx12.size)).trans hx19).trans hn20.ext).then' hp22.only (by simp) (Nat.le_trans (Nat.le_trans (Nat.le_trans (Nat.le_trans (Nat.le_trans (Nat.le_trans hn1.ext.size hn3.ext.size) hx8.size) hx12.size) hn13.ext.size) hp15.only.size) hx19.size)).trans hx25)⟩
    · refine W_skip ?_
      refine X_then ?_
      refine W_sub _ (.cons (i := 9) rfl (.cons (i := 8) rfl (.cons (i := 6) rfl (.cons (i := 5) rfl (.cons (i := 4) rfl (.cons (i := 3) rfl (.cons (i := 2) rfl (.nil _)))))))) ?_
      refine W_seq ?_
      refine W_pers [(9, s117), (8, .pointer (some ⟨h10.size, 0, none⟩)), (6, s110), (5, .pointer (some ⟨h7.size, 0, none⟩)), (3, .pointer (some ⟨h1.size, 0, none⟩)), (2, .pointer (some ⟨h.size, 0, none⟩))] (.cons (i := 9) rfl (.cons (i := 8) rfl (.cons (i := 6) rfl (.cons (i := 5) rfl (.cons (i := 3) rfl (.cons (i := 2) rfl (.nil _))))))) (by kernel_rfl) ?_
      refine LP_op 0 (fun _ vv => .bool true = vv) [] rfl rfl (by kernel_rfl) (fun _ _ _ _ p => p) ?_ ?_
      · intro h14 hx26
        refine Needs_nil ?_
        refine Stp_call (E_call (by kernel_rfl) rfl) (law10_alive _ (hK.ext (((((((((hn1.ext.trans hn3.ext).trans hx8).trans hx12).trans hn13.ext).then' hp15.only (by simp) (Nat.le_trans (Nat.le_trans (Nat.le_trans hn1.ext.size hn3.ext.size) hx8.size) hx12.size)).trans hx19).trans hn20.ext).then' hp22.only (by simp) (Nat.le_trans (Nat.le_trans (Nat.le_trans (Nat.le_trans (Nat.le_trans (Nat.le_trans hn1.ext.size hn3.ext.size) hx8.size) hx12.size) hn13.ext.size) hp15.only.size) hx19.size)).trans hx26)) (hN.ext (((((((((hn1.ext.trans hn3.ext).trans hx8).trans hx12).trans hn13.ext).then' hp15.only (by simp) (Nat.le_trans (Nat.le_trans (Nat.le_trans hn1.ext.size hn3.ext.size) hx8.size) hx12.size)).trans hx19).trans hn20.ext).then' hp22.only (by simp) (Nat.le_trans (Nat.le_trans (Nat.le_trans (Nat.le_trans (Nat.le_trans (Nat.le_trans hn1.ext.size hn3.ext.size) hx8.size) hx12.size) hn13.ext.size) hp15.only.size) hx19.size)).trans hx26)) (hE.ext (((((((((hn1.ext.trans hn3.ext).trans hx8).trans hx12).trans hn13.ext).then' hp15.only (by simp) (Nat.le_trans (Nat.le_trans (Nat.le_trans hn1.ext.size hn3.ext.size) hx8.size) hx12.size)).trans hx19).trans hn20.ext).then' hp22.only (by simp) (Nat.le_trans (Nat.le_trans (Nat.le_trans (Nat.le_trans (Nat.le_trans (Nat.le_trans hn1.ext.size hn3.ext.size) hx8.size) hx12.size) hn13.ext.size) hp15.only.size) hx19.size)).trans hx26)) (hT.ext (((((((((hn1.ext.trans hn3.ext).trans hx8).trans hx12).trans hn13.ext).then' hp15.only (by simp) (Nat.le_trans (Nat.le_trans (Nat.le_trans hn1.ext.size hn3.ext.size) hx8.size) hx12.size)).trans hx19).trans hn20.ext).then' hp22.only (by simp) (Nat.le_trans (Nat.le_trans (Nat.le_trans (Nat.le_trans (Nat.le_trans (Nat.le_trans hn1.ext.size hn3.ext.size) hx8.size) hx12.size) hn13.ext.size) hp15.only.size) hx19.size)).trans hx26))) rfl ?_
        rintro _ h15 ⟨rfl, hx27⟩
        exact ⟨hx27, rfl⟩
      refine LP_op 1 (fun _ vv => .bool true = vv) [(0, 39)] rfl rfl (by kernel_rfl) (fun _ _ _ _ p => p) ?_ ?_
      · intro h16 hx28
        rintro _ rfl
        refine Needs_nil ?_
        refine Stp_yld (Y_move rfl) rfl ?_
        exact rfl
      refine LP_op 2 (fun _ vv => .agg #[.int .i64 (k), str p, .int .i64 (m), str tg, .int .i64 (z)] = vv) [(1, 40)] rfl rfl (by kernel_rfl) (fun _ _ _ _ p => p) ?_ ?_
      · intro h17 hx29
        rintro _ rfl
        refine Needs_nil ?_
        refine Stp_yld (Y_ldbox (us := [.int .i64 (k), str p, .int .i64 (m), str tg, .int .i64 (z)]) Tryd.underlying46 rfl (show _ = some 5 by kernel_rfl) rfl (hk2.ext ((((((((hn3.ext.trans hx8).trans hx12).trans hn13.ext).then' hp15.only (by simp) (Nat.le_trans (Nat.le_trans hn3.ext.size hx8.size) hx12.size)).trans hx19).trans hn20.ext).then' hp22.only (by simp) (Nat.le_trans (Nat.le_trans (Nat.le_trans (Nat.le_trans (Nat.le_trans hn3.ext.size hx8.size) hx12.size) hn13.ext.size) hp15.only.size) hx19.size)).trans hx29)) rfl) rfl ?_
        exact rfl
      refine LP_op 3 (fun _ vv => .agg #[.int .i64 (k'), str p', .int .i64 (m'), str tg', .int .i64 (z')] = vv) [(1, 40)] rfl rfl (by kernel_rfl) (fun _ _ _ _ p => p) ?_ ?_
      · intro h18 hx30
        rintro _ rfl
        refine Needs_nil ?_
        refine Stp_yld (Y_ldbox (us := [.int .i64 (k'), str p', .int .i64 (m'), str tg', .int .i64 (z')]) Tryd.underlying46 rfl (show _ = some 5 by kernel_rfl) rfl (hk4.ext (((((((hx8.trans hx12).trans hn13.ext).then' hp15.only (by simp) (Nat.le_trans hx8.size hx12.size)).trans hx19).trans hn20.ext).then' hp22.only (by simp) (Nat.le_trans (Nat.le_trans (Nat.le_trans (Nat.le_trans hx8.size hx12.size) hn13.ext.size) hp15.only.size) hx19.size)).trans hx30)) rfl) rfl ?_
        exact rfl
      refine LP_op 4 (fun _ vv => .bool (decide (k = k' ∧ p = p' ∧ m = m' ∧ tg = tg' ∧ z = z')) = vv) [(1, 40), (2, 41), (3, 42)] rfl rfl (by kernel_rfl) (fun _ _ _ _ p => p) ?_ ?_
      · intro h19 hx31
        rintro _ rfl
        rintro _ rfl
        rintro _ rfl
        refine Needs_nil ?_
        refine Stp_yld (Y_steql (xs := [.int .i64 (k), str p, .int .i64 (m), str tg, .int .i64 (z)]) (ys := [.int .i64 (k'), str p', .int .i64 (m'), str tg', .int .i64 (z')]) (r := decide (k = k' ∧ p = p' ∧ m = m' ∧ tg = tg' ∧ z = z')) (by kernel_rfl) (by kernel_rfl) (by kernel_rfl) rfl rfl (steq (ks := [.i .i64, .s, .i .i64, .s, .i .i64]) (by kernel_rfl) (by simp [eqks, eqk]))) rfl ?_
        exact rfl
      refine LP_op 5 (fun _ vv => .agg #[.int .u8 (fT (fcheck k p m tg z) k), str (fN (fcheck k p m tg z) p), str (fP (fcheck k p m tg z) p), str (fL (fcheck k p m tg z) tg), .int .i64 (fM (fcheck k p m tg z) m), .int .i64 (fZ (fcheck k p m tg z) z)] = vv) [(1, 40)] rfl rfl (by kernel_rfl) (fun _ _ _ _ p => p) ?_ ?_
      · intro h20 hx32
        rintro _ rfl
        refine Needs_nil ?_
        refine Stp_yld (Y_ldbox (us := [.int .u8 (fT (fcheck k p m tg z) k), str (fN (fcheck k p m tg z) p), str (fP (fcheck k p m tg z) p), str (fL (fcheck k p m tg z) tg), .int .i64 (fM (fcheck k p m tg z) m), .int .i64 (fZ (fcheck k p m tg z) z)]) Tryd.underlying48 rfl (show _ = some 6 by kernel_rfl) rfl (hk16.ext (((hx19.trans hn20.ext).then' hp22.only (by simp) hx19.size).trans hx32)) rfl) rfl ?_
        exact rfl
      refine LP_op 6 (fun _ vv => .agg #[.int .u8 (fT (fcheck k' p' m' tg' z') k'), str (fN (fcheck k' p' m' tg' z') p'), str (fP (fcheck k' p' m' tg' z') p'), str (fL (fcheck k' p' m' tg' z') tg'), .int .i64 (fM (fcheck k' p' m' tg' z') m'), .int .i64 (fZ (fcheck k' p' m' tg' z') z')] = vv) [(1, 40)] rfl rfl (by kernel_rfl) (fun _ _ _ _ p => p) ?_ ?_
      · intro h21 hx33
        rintro _ rfl
        refine Needs_nil ?_
        refine Stp_yld (Y_ldbox (us := [.int .u8 (fT (fcheck k' p' m' tg' z') k'), str (fN (fcheck k' p' m' tg' z') p'), str (fP (fcheck k' p' m' tg' z') p'), str (fL (fcheck k' p' m' tg' z') tg'), .int .i64 (fM (fcheck k' p' m' tg' z') m'), .int .i64 (fZ (fcheck k' p' m' tg' z') z')]) Tryd.underlying48 rfl (show _ = some 6 by kernel_rfl) rfl (hk23.ext hx33) rfl) rfl ?_
        exact rfl
      refine LP_op 7 (fun _ vv => .bool (decide ((fT (fcheck k p m tg z) k) = (fT (fcheck k' p' m' tg' z') k') ∧ (fN (fcheck k p m tg z) p) = (fN (fcheck k' p' m' tg' z') p') ∧ (fP (fcheck k p m tg z) p) = (fP (fcheck k' p' m' tg' z') p') ∧ (fL (fcheck k p m tg z) tg) = (fL (fcheck k' p' m' tg' z') tg') ∧ (fM (fcheck k p m tg z) m) = (fM (fcheck k' p' m' tg' z') m') ∧ (fZ (fcheck k p m tg z) z) = (fZ (fcheck k' p' m' tg' z') z'))) = vv) [(1, 40), (5, 44), (6, 45)] rfl rfl (by kernel_rfl) (fun _ _ _ _ p => p) ?_ ?_
      · intro h22 hx34
        rintro _ rfl
        rintro _ rfl
        rintro _ rfl
        refine Needs_nil ?_
        refine Stp_yld (Y_steql (xs := [.int .u8 (fT (fcheck k p m tg z) k), str (fN (fcheck k p m tg z) p), str (fP (fcheck k p m tg z) p), str (fL (fcheck k p m tg z) tg), .int .i64 (fM (fcheck k p m tg z) m), .int .i64 (fZ (fcheck k p m tg z) z)]) (ys := [.int .u8 (fT (fcheck k' p' m' tg' z') k'), str (fN (fcheck k' p' m' tg' z') p'), str (fP (fcheck k' p' m' tg' z') p'), str (fL (fcheck k' p' m' tg' z') tg'), .int .i64 (fM (fcheck k' p' m' tg' z') m'), .int .i64 (fZ (fcheck k' p' m' tg' z') z')]) (r := decide ((fT (fcheck k p m tg z) k) = (fT (fcheck k' p' m' tg' z') k') ∧ (fN (fcheck k p m tg z) p) = (fN (fcheck k' p' m' tg' z') p') ∧ (fP (fcheck k p m tg z) p) = (fP (fcheck k' p' m' tg' z') p') ∧ (fL (fcheck k p m tg z) tg) = (fL (fcheck k' p' m' tg' z') tg') ∧ (fM (fcheck k p m tg z) m) = (fM (fcheck k' p' m' tg' z') m') ∧ (fZ (fcheck k p m tg z) z) = (fZ (fcheck k' p' m' tg' z') z'))) (by kernel_rfl) (by kernel_rfl) (by kernel_rfl) rfl rfl (steq (ks := [.i .u8, .s, .s, .s, .i .i64, .i .i64]) (by kernel_rfl) (by simp [eqks, eqk]))) rfl ?_
        exact rfl
      refine LP_op 8 (fun _ vv => .bool true = vv) [(1, 40), (7, 46)] rfl rfl (by kernel_rfl) (fun _ _ _ _ p => p) ?_ ?_
      · intro h23 hx35
        rintro _ rfl
        rintro _ rfl
        refine Needs_nil ?_
        refine Stp_yld (Y_move rfl) rfl ?_
        exact (congrArg Value.bool (decide_eq_true (by exact hq))).symm
      refine LP_op 9 (fun _ vv => s110 = vv) [(8, 47)] rfl rfl (by kernel_rfl) (fun _ _ _ _ p => p) ?_ ?_
      · intro h24 hx36
        rintro _ rfl
        refine Needs_nil ?_
        refine Stp_yld (Y_move rfl) rfl ?_
        exact rfl
      refine LP_op 10 (fun _ vv => s117 = vv) [(8, 47)] rfl rfl (by kernel_rfl) (fun _ _ _ _ p => p) ?_ ?_
      · intro h25 hx37
        rintro _ rfl
        refine Needs_nil ?_
        refine Stp_yld (Y_move rfl) rfl ?_
        exact rfl
      refine LP_op 11 (fun _ vv => .bool (decide ((fR (fcheck k p m tg z) p tg z) = (fR (fcheck k' p' m' tg' z') p' tg' z'))) = vv) [(9, 48), (10, 49), (8, 47)] rfl rfl (by kernel_rfl) (fun _ _ _ _ p => p) ?_ ?_
      · intro h26 hx38
        rintro _ rfl
        rintro _ rfl
        rintro _ rfl
        refine Needs_nil ?_
        refine Stp_call (E_call (by kernel_rfl) rfl) (slices_EqualR _ s110 (fR (fcheck k p m tg z) p tg z) (hr111.rows.ext (((((hn13.ext.then' hp15.only (by simp) (Nat.le_refl _)).trans hx19).trans hn20.ext).then' hp22.only (by simp) (Nat.le_trans (Nat.le_trans hn13.ext.size hp15.only.size) hx19.size)).trans hx38)) s117 (fR (fcheck k' p' m' tg' z') p' tg' z') (hr118.rows.ext ((hn20.ext.then' hp22.only (by simp) (Nat.le_refl _)).trans hx38)) (by first | first | omega | (exact Nat.le_trans (fR_len _ _ _ _) (by decide)) | rfl | (simp <;> omega))) rfl ?_
        rintro _ h26 ⟨rfl, rfl⟩
        exact ⟨(Ext.refl _), rfl⟩
      refine LP_op 12 (fun _ vv => .bool (decide ((fR (fcheck k p m tg z) p tg z) = (fR (fcheck k' p' m' tg' z') p' tg' z'))) = vv) [(1, 40), (11, 50), (8, 47)] rfl rfl (by kernel_rfl) (fun _ _ _ _ p => p) ?_ ?_
      · intro h27 hx39
        rintro _ rfl
        rintro _ rfl
        rintro _ rfl
        refine Needs_nil ?_
        refine Stp_yld (Y_pick_t rfl rfl) rfl ?_
        exact rfl
      refine LP_op 13 (fun _ vv => .bool ((decide (k = k' ∧ p = p' ∧ m = m' ∧ tg = tg' ∧ z = z')) == (decide ((fR (fcheck k p m tg z) p tg z) = (fR (fcheck k' p' m' tg' z') p' tg' z')))) = vv) [(1, 40), (12, 51), (4, 43)] rfl rfl (by kernel_rfl) (fun _ _ _ _ p => p) ?_ ?_
      · intro h28 hx40
        rintro _ rfl
        rintro _ rfl
        rintro _ rfl
        refine Needs_nil ?_
        refine Stp_yld (Y_beql Tryd.underlying4 rfl rfl) rfl ?_
        exact rfl
      refine LP_op 14 (fun _ vv => .bool ((decide (k = k' ∧ p = p' ∧ m = m' ∧ tg = tg' ∧ z = z')) == (decide ((fR (fcheck k p m tg z) p tg z) = (fR (fcheck k' p' m' tg' z') p' tg' z')))) = vv) [(1, 40), (13, 52)] rfl rfl (by kernel_rfl) (fun _ _ _ _ p => p) ?_ ?_
      · intro h29 hx41
        rintro _ rfl
        rintro _ rfl
        refine Needs_nil ?_
        refine Stp_yld (Y_pick_t rfl rfl) rfl ?_
        exact rfl
      refine LP_op 15 (fun _ vv => .bool ((decide (k = k' ∧ p = p' ∧ m = m' ∧ tg = tg' ∧ z = z')) == (decide ((fR (fcheck k p m tg z) p tg z) = (fR (fcheck k' p' m' tg' z') p' tg' z')))) = vv) [(14, 53)] rfl rfl (by kernel_rfl) (fun _ _ _ _ p => p) ?_ ?_
      · intro h30 hx42
        rintro _ rfl
        refine Needs_nil ?_
        refine Stp_yld (Y_assign rfl) rfl ?_
        exact rfl
      refine LP_end [(15, 4)] rfl (by kernel_rfl) rfl ?_
      intro h31 hx43
      rintro _ rfl
      refine Needs_nil ?_
      refine X_then ?_
      refine W_sub _ (.cons (i := 4) rfl (.nil _)) ?_
      refine W_ret ?_
      refine X_ret1 rfl rfl ?_
      have x1 : fcheck k p m tg z = 0 := Classical.not_not.1 (fun e => x (.inl e))
      have x2 : fcheck k' p' m' tg' z' = 0 := Classical.not_not.1 (fun e => x (.inr e))
      exact ⟨congrArg Value.bool (beq_iff_eq.2 (decide_eq_decide.2 ⟨fun e => by obtain ⟨rfl, rfl, rfl, rfl, rfl⟩ := e; rfl, fun e => plan_inj x1 x2 hq e⟩)), (((((((((hn1.ext.trans hn3.ext).trans hx8).trans hx12).trans hn13.ext).then' hp15.only (by simp) (Nat.le_trans (Nat.le_trans (Nat.le_trans hn1.ext.size hn3.ext.size) hx8.size) hx12.size)).trans hx19).trans hn20.ext).then' hp22.only (by simp) (Nat.le_trans (Nat.le_trans (Nat.le_trans (Nat.le_trans (Nat.le_trans (Nat.le_trans hn1.ext.size hn3.ext.size) hx8.size) hx12.size) hn13.ext.size) hp15.only.size) hx19.size)).trans hx43)⟩
set_option maxRecDepth 100000 in
theorem fitIsInjectiveN (h : Heap) (hK : GlbK h) (hN : GlbN h) (hE : GlbE h) (hT : GlbT h) (k : Int) (p : List UInt8) (m : Int) (tg : List UInt8) (z : Int) (k' : Int) (p' : List UInt8) (m' : Int) (tg' : List UInt8) (z' : Int) (hk : -9223372036854775808 ≤ k ∧ k ≤ 9223372036854775807) (hp : p.length ≤ 140737488355328) (hm : -9223372036854775808 ≤ m ∧ m ≤ 9223372036854775807) (ht : tg.length ≤ 140737488355328) (hz : -9223372036854775808 ≤ z ∧ z ≤ 9223372036854775807) (hk' : -9223372036854775808 ≤ k' ∧ k' ≤ 9223372036854775807) (hp' : p'.length ≤ 140737488355328) (hm' : -9223372036854775808 ≤ m' ∧ m' ≤ 9223372036854775807) (ht' : tg'.length ≤ 140737488355328) (hz' : -9223372036854775808 ≤ z' ∧ z' ≤ 9223372036854775807) (hq : ¬ hdEq (fcheck k p m tg z) k p m tg z (fcheck k' p' m' tg' z') k' p' m' tg' z') : Cal Tryd.prog 10 #[.agg #[.int .i64 (k), str p, .int .i64 (m), str tg, .int .i64 (z)], .agg #[.int .i64 (k'), str p', .int .i64 (m'), str tg', .int .i64 (z')]] h (fun v h' => v = .bool true ∧ Ext h h') := by
  refine Cal_enter (args := [.agg #[.int .i64 (k), str p, .int .i64 (m), str tg, .int .i64 (z)], .agg #[.int .i64 (k'), str p', .int .i64 (m'), str tg', .int .i64 (z')]]) Tryd.func10 rfl rfl rfl (fun σ => ?_)
  refine W_seq ?_
  refine W_region ?_
  refine L_mks (M_box rfl) rfl rfl rfl ?_
  rintro _ h1 ⟨rfl, hn1⟩
  have hk2 : Blk h1 h.size [.int .i64 (k), str p, .int .i64 (m), str tg, .int .i64 (z)] := hn1.blk
  refine L_mks (M_box rfl) rfl rfl rfl ?_
  rintro _ h2 ⟨rfl, hn3⟩
  have hk4 : Blk h2 h1.size [.int .i64 (k'), str p', .int .i64 (m'), str tg', .int .i64 (z')] := hn3.blk
  refine L_yld (Y_assign rfl) rfl rfl rfl ?_
  refine L_nil ?_
  refine X_then ?_
  refine W_sub _ (.cons (i := 4) rfl (.cons (i := 3) rfl (.cons (i := 2) rfl (.nil _)))) ?_
  refine W_seq ?_
  refine W_cut (S := Unit) (fun _ => [(18, .bool (decide ((0 < (if 70000 < p.length + tg.length then 1 else 0 : Int)) ∨ (0 < (if 70000 < p'.length + tg'.length then 1 else 0 : Int))))), (4, .bool false), (3, .pointer (some ⟨h1.size, 0, none⟩)), (2, .pointer (some ⟨h.size, 0, none⟩))]) (fun _ h' => Ext h2 h') ?_ ?_
  · refine W_region ?_
    refine L_yld (Y_ldbox (us := [.int .i64 (k), str p, .int .i64 (m), str tg, .int .i64 (z)]) Tryd.underlying46 rfl (show _ = some 5 by kernel_rfl) rfl (hk2.ext hn3.ext) rfl) rfl rfl rfl ?_
    refine L_call (E_call (by kernel_rfl) rfl) (law10_TooLarge _ k p m tg z (by first | first | omega | (exact Nat.le_trans (fR_len _ _ _ _) (by decide)) | rfl | (simp <;> omega)) (by first | first | omega | (exact Nat.le_trans (fR_len _ _ _ _) (by decide)) | rfl | (simp <;> omega))) rfl rfl rfl ?_
    rintro _ h3 ⟨rfl, hx5⟩
    refine L_yld (Y_gtr rfl rfl) rfl rfl rfl ?_
    refine L_yld (Y_move rfl) rfl rfl rfl ?_
    refine L_splitd (d := 14) rfl (fun c6 => ?_) (fun c6 => ?_)
    · refine L_skip rfl rfl rfl ?_
      refine L_skip rfl rfl rfl ?_
      refine L_skip rfl rfl rfl ?_
      refine L_yld (Y_pick_t rfl rfl) rfl rfl rfl ?_
      refine L_nil ?_
      exact X_cut () (.cons (i := 18) (lkb rfl (by simp only [eq_true c6, true_and, and_true, false_and, and_false, true_or, or_true, false_or, or_false, not_true_eq_false, not_false_eq_true, decide_true, decide_false, Bool.true_eq_false, Bool.false_eq_true, eq_self, Bool.decide_eq_true])) (.cons (i := 4) rfl (.cons (i := 3) rfl (.cons (i := 2) rfl (.nil _))))) hx5
    · refine L_yld (Y_ldbox (us := [.int .i64 (k'), str p', .int .i64 (m'), str tg', .int .i64 (z')]) Tryd.underlying46 rfl (show _ = some 5 by kernel_rfl) rfl (hk4.ext hx5) rfl) rfl rfl rfl ?_
      refine L_call (E_call (by kernel_rfl) rfl) (law10_TooLarge _ k' p' m' tg' z' (by first | first | omega | (exact Nat.le_trans (fR_len _ _ _ _) (by decide)) | rfl | (simp <;> omega)) (by first | first | omega | (exact Nat.le_trans (fR_len _ _ _ _) (by decide)) | rfl | (simp <;> omega))) rfl rfl rfl ?_
      rintro _ h4 ⟨rfl, hx7⟩
      refine L_yld (Y_gtr rfl rfl) rfl rfl rfl ?_
      refine L_yld (Y_pick_f rfl rfl) rfl rfl rfl ?_
      refine L_nil ?_
      exact X_cut () (.cons (i := 18) (lkb rfl (by simp only [eq_false c6, true_and, and_true, false_and, and_false, true_or, or_true, false_or, or_false, not_true_eq_false, not_false_eq_true, decide_true, decide_false, Bool.true_eq_false, Bool.false_eq_true, eq_self, Bool.decide_eq_true])) (.cons (i := 4) rfl (.cons (i := 3) rfl (.cons (i := 2) rfl (.nil _))))) (hx5.trans hx7)
  rintro _ h5 hx8
  show W _ _ _ _ _ [(18, .bool (decide ((0 < (if 70000 < p.length + tg.length then 1 else 0 : Int)) ∨ (0 < (if 70000 < p'.length + tg'.length then 1 else 0 : Int))))), (4, .bool false), (3, .pointer (some ⟨h1.size, 0, none⟩)), (2, .pointer (some ⟨h.size, 0, none⟩))] _
  refine W_splitd rfl (fun g => ?_) (fun g => ?_)
  · refine W_seq ?_
    refine W_region ?_
    refine L_call (E_call (by kernel_rfl) rfl) (law10_alive _ (hK.ext ((hn1.ext.trans hn3.ext).trans hx8)) (hN.ext ((hn1.ext.trans hn3.ext).trans hx8)) (hE.ext ((hn1.ext.trans hn3.ext).trans hx8)) (hT.ext ((hn1.ext.trans hn3.ext).trans hx8))) rfl rfl rfl ?_
    rintro _ h6 ⟨rfl, hx9⟩
    refine L_yld (Y_assign rfl) rfl rfl rfl ?_
    refine L_nil ?_
    refine X_then ?_
    refine W_sub _ (.cons (i := 4) rfl (.cons (i := 3) rfl (.cons (i := 2) rfl (.nil _)))) ?_
    refine W_ret ?_
    refine X_then_ret ?_
    refine X_ret1 rfl rfl ?_
    exact ⟨rfl, (((hn1.ext.trans hn3.ext).trans hx8).trans hx9)⟩
  · refine W_skip ?_
    refine X_then ?_
    refine W_sub _ (.cons (i := 4) rfl (.cons (i := 3) rfl (.cons (i := 2) rfl (.nil _)))) ?_
    refine W_seq ?_
    refine W_region ?_
    refine L_yld (Y_ldbox (us := [.int .i64 (k), str p, .int .i64 (m), str tg, .int .i64 (z)]) Tryd.underlying46 rfl (show _ = some 5 by kernel_rfl) rfl (hk2.ext (hn3.ext.trans hx8)) rfl) rfl rfl rfl ?_
    refine L_call (E_call (by kernel_rfl) rfl) (fit_Plan _ (hK.ext ((hn1.ext.trans hn3.ext).trans hx8)) (hN.ext ((hn1.ext.trans hn3.ext).trans hx8)) (hE.ext ((hn1.ext.trans hn3.ext).trans hx8)) (hT.ext ((hn1.ext.trans hn3.ext).trans hx8)) k p m tg z (by first | first | omega | (exact Nat.le_trans (fR_len _ _ _ _) (by decide)) | rfl | (simp <;> omega)) (by first | first | omega | (exact Nat.le_trans (fR_len _ _ _ _) (by decide)) | rfl | (simp <;> omega)) (by first | first | omega | (exact Nat.le_trans (fR_len _ _ _ _) (by decide)) | rfl | (simp <;> omega))) rfl rfl rfl ?_
    rintro _ h7 ⟨s110, rfl, hr111, hx12⟩
    refine L_yld (Y_move rfl) rfl rfl rfl ?_
    refine L_yld (Y_extract (v := .agg #[.int .u8 (fT (fcheck k p m tg z) k), str (fN (fcheck k p m tg z) p), str (fP (fcheck k p m tg z) p), str (fL (fcheck k p m tg z) tg), .int .i64 (fM (fcheck k p m tg z) m), .int .i64 (fZ (fcheck k p m tg z) z)]) rfl rfl) rfl rfl rfl ?_
    refine L_yld (Y_extract (v := s110) rfl rfl) rfl rfl rfl ?_
    refine L_yld (Y_extract (v := .int .i64 (fcheck k p m tg z)) rfl rfl) rfl rfl rfl ?_
    refine L_mks (M_alloc (u := .agg #[.int .u8 0, str [], str [], str [], .int .i64 0, .int .i64 0]) (by kernel_rfl)) rfl rfl rfl ?_
    rintro _ h8 ⟨rfl, hn13⟩
    have hk14 : Blk h8 h7.size [.int .u8 0, str [], str [], str [], .int .i64 0, .int .i64 0] := hn13.blk
    refine L_dos (D_store (us := [.int .u8 (fT (fcheck k p m tg z) k), str (fN (fcheck k p m tg z) p), str (fP (fcheck k p m tg z) p), str (fL (fcheck k p m tg z) tg), .int .i64 (fM (fcheck k p m tg z) m), .int .i64 (fZ (fcheck k p m tg z) z)]) (show _ = some 6 by kernel_rfl) rfl rfl rfl (by simp [Value.oneCell']) hk14 (by simp)) rfl rfl ?_
    rintro h9 hp15
    have hk16 : Blk h9 h7.size [.int .u8 (fT (fcheck k p m tg z) k), str (fN (fcheck k p m tg z) p), str (fP (fcheck k p m tg z) p), str (fL (fcheck k p m tg z) tg), .int .i64 (fM (fcheck k p m tg z) m), .int .i64 (fZ (fcheck k p m tg z) z)] := hp15.blk
    refine L_yld (Y_assign rfl) rfl rfl rfl ?_
    refine L_yld (Y_assign rfl) rfl rfl rfl ?_
    refine L_nil ?_
    refine X_then ?_
    refine W_sub _ (.cons (i := 7) rfl (.cons (i := 6) rfl (.cons (i := 5) rfl (.cons (i := 4) rfl (.cons (i := 3) rfl (.cons (i := 2) rfl (.nil _))))))) ?_
    refine W_seq ?_
    refine W_region ?_
    refine L_yld (Y_ldbox (us := [.int .i64 (k'), str p', .int .i64 (m'), str tg', .int .i64 (z')]) Tryd.underlying46 rfl (show _ = some 5 by kernel_rfl) rfl (hk4.ext (((hx8.trans hx12).trans hn13.ext).then' hp15.only (by simp) (Nat.le_trans hx8.size hx12.size))) rfl) rfl rfl rfl ?_
    refine L_call (E_call (by kernel_rfl) rfl) (fit_Plan _ (hK.ext (((((hn1.ext.trans hn3.ext).trans hx8).trans hx12).trans hn13.ext).then' hp15.only (by simp) (Nat.le_trans (Nat.le_trans (Nat.le_trans hn1.ext.size hn3.ext.size) hx8.size) hx12.size))) (hN.ext (((((hn1.ext.trans hn3.ext).trans hx8).trans hx12).trans hn13.ext).then' hp15.only (by simp) (Nat.le_trans (Nat.le_trans (Nat.le_trans hn1.ext.size hn3.ext.size) hx8.size) hx12.size))) (hE.ext (((((hn1.ext.trans hn3.ext).trans hx8).trans hx12).trans hn13.ext).then' hp15.only (by simp) (Nat.le_trans (Nat.le_trans (Nat.le_trans hn1.ext.size hn3.ext.size) hx8.size) hx12.size))) (hT.ext (((((hn1.ext.trans hn3.ext).trans hx8).trans hx12).trans hn13.ext).then' hp15.only (by simp) (Nat.le_trans (Nat.le_trans (Nat.le_trans hn1.ext.size hn3.ext.size) hx8.size) hx12.size))) k' p' m' tg' z' (by first | first | omega | (exact Nat.le_trans (fR_len _ _ _ _) (by decide)) | rfl | (simp <;> omega)) (by first | first | omega | (exact Nat.le_trans (fR_len _ _ _ _) (by decide)) | rfl | (simp <;> omega)) (by first | first | omega | (exact Nat.le_trans (fR_len _ _ _ _) (by decide)) | rfl | (simp <;> omega))) rfl rfl rfl ?_
    rintro _ h10 ⟨s117, rfl, hr118, hx19⟩
    refine L_yld (Y_move rfl) rfl rfl rfl ?_
    refine L_yld (Y_extract (v := .agg #[.int .u8 (fT (fcheck k' p' m' tg' z') k'), str (fN (fcheck k' p' m' tg' z') p'), str (fP (fcheck k' p' m' tg' z') p'), str (fL (fcheck k' p' m' tg' z') tg'), .int .i64 (fM (fcheck k' p' m' tg' z') m'), .int .i64 (fZ (fcheck k' p' m' tg' z') z')]) rfl rfl) rfl rfl rfl ?_
    refine L_yld (Y_extract (v := s117) rfl rfl) rfl rfl rfl ?_
    refine L_yld (Y_extract (v := .int .i64 (fcheck k' p' m' tg' z')) rfl rfl) rfl rfl rfl ?_
    refine L_mks (M_alloc (u := .agg #[.int .u8 0, str [], str [], str [], .int .i64 0, .int .i64 0]) (by kernel_rfl)) rfl rfl rfl ?_
    rintro _ h11 ⟨rfl, hn20⟩
    have hk21 : Blk h11 h10.size [.int .u8 0, str [], str [], str [], .int .i64 0, .int .i64 0] := hn20.blk
    refine L_dos (D_store (us := [.int .u8 (fT (fcheck k' p' m' tg' z') k'), str (fN (fcheck k' p' m' tg' z') p'), str (fP (fcheck k' p' m' tg' z') p'), str (fL (fcheck k' p' m' tg' z') tg'), .int .i64 (fM (fcheck k' p' m' tg' z') m'), .int .i64 (fZ (fcheck k' p' m' tg' z') z')]) (show _ = some 6 by kernel_rfl) rfl rfl rfl (by simp [Value.oneCell']) hk21 (by simp)) rfl rfl ?_
    rintro h12 hp22
    have hk23 : Blk h12 h10.size [.int .u8 (fT (fcheck k' p' m' tg' z') k'), str (fN (fcheck k' p' m' tg' z') p'), str (fP (fcheck k' p' m' tg' z') p'), str (fL (fcheck k' p' m' tg' z') tg'), .int .i64 (fM (fcheck k' p' m' tg' z') m'), .int .i64 (fZ (fcheck k' p' m' tg' z') z')] := hp22.blk
    refine L_yld (Y_assign rfl) rfl rfl rfl ?_
    refine L_yld (Y_assign rfl) rfl rfl rfl ?_
    refine L_nil ?_
    refine X_then ?_
    refine W_sub _ (.cons (i := 10) rfl (.cons (i := 9) rfl (.cons (i := 8) rfl (.cons (i := 7) rfl (.cons (i := 6) rfl (.cons (i := 5) rfl (.cons (i := 4) rfl (.cons (i := 3) rfl (.cons (i := 2) rfl (.nil _)))))))))) ?_
    refine W_seq ?_
    refine W_cut (S := Unit) (fun _ => [(37, .bool (decide ((¬ (fcheck k p m tg z) = 0) ∨ (¬ (fcheck k' p' m' tg' z') = 0)))), (9, s117), (8, .pointer (some ⟨h10.size, 0, none⟩)), (6, s110), (5, .pointer (some ⟨h7.size, 0, none⟩)), (4, .bool false), (3, .pointer (some ⟨h1.size, 0, none⟩)), (2, .pointer (some ⟨h.size, 0, none⟩))]) (fun _ h' => h' = h12) ?_ ?_
    · refine W_region ?_
      refine L_yld (Y_move rfl) rfl rfl rfl ?_
      refine L_yld (Y_neq rfl rfl) rfl rfl rfl ?_
      refine L_yld (Y_move rfl) rfl rfl rfl ?_
      refine L_splitd (d := 34) rfl (fun c24 => ?_) (fun c24 => ?_)
      · refine L_skip rfl rfl rfl ?_
        refine L_skip rfl rfl rfl ?_
        refine L_yld (Y_pick_t rfl rfl) rfl rfl rfl ?_
        refine L_nil ?_
        exact X_cut () (.cons (i := 37) (lkb rfl (by simp only [eq_true c24, true_and, and_true, false_and, and_false, true_or, or_true, false_or, or_false, not_true_eq_false, not_false_eq_true, decide_true, decide_false, Bool.true_eq_false, Bool.false_eq_true, eq_self, Bool.decide_eq_true])) (.cons (i := 9) rfl (.cons (i := 8) rfl (.cons (i := 6) rfl (.cons (i := 5) rfl (.cons (i := 4) rfl (.cons (i := 3) rfl (.cons (i := 2) rfl (.nil _))))))))) rfl
      · refine L_yld (Y_move rfl) rfl rfl rfl ?_
        refine L_yld (Y_neq rfl rfl) rfl rfl rfl ?_
        refine L_yld (Y_pick_f rfl rfl) rfl rfl rfl ?_
        refine L_nil ?_
        exact X_cut () (.cons (i := 37) (lkb rfl (by simp only [eq_false c24, true_and, and_true, false_and, and_false, true_or, or_true, false_or, or_false, not_true_eq_false, not_false_eq_true, decide_true, decide_false, Bool.true_eq_false, Bool.false_eq_true, eq_self, Bool.decide_eq_true])) (.cons (i := 9) rfl (.cons (i := 8) rfl (.cons (i := 6) rfl (.cons (i := 5) rfl (.cons (i := 4) rfl (.cons (i := 3) rfl (.cons (i := 2) rfl (.nil _))))))))) rfl
    rintro _ h12 rfl
    show W _ _ _ _ _ [(37, .bool (decide ((¬ (fcheck k p m tg z) = 0) ∨ (¬ (fcheck k' p' m' tg' z') = 0)))), (9, s117), (8, .pointer (some ⟨h10.size, 0, none⟩)), (6, s110), (5, .pointer (some ⟨h7.size, 0, none⟩)), (4, .bool false), (3, .pointer (some ⟨h1.size, 0, none⟩)), (2, .pointer (some ⟨h.size, 0, none⟩))] _
    refine W_splitd rfl (fun x => ?_) (fun x => ?_)
    · refine W_seq ?_
      refine W_region ?_
      refine L_call (E_call (by kernel_rfl) rfl) (law10_alive _ (hK.ext ((((((((hn1.ext.trans hn3.ext).trans hx8).trans hx12).trans hn13.ext).then' hp15.only (by simp) (Nat.le_trans (Nat.le_trans (Nat.le_trans hn1.ext.size hn3.ext.size) hx8.size) hx12.size)).trans hx19).trans hn20.ext).then' hp22.only (by simp) (Nat.le_trans (Nat.le_trans (Nat.le_trans (Nat.le_trans (Nat.le_trans (Nat.le_trans hn1.ext.size hn3.ext.size) hx8.size) hx12.size) hn13.ext.size) hp15.only.size) hx19.size))) (hN.ext ((((((((hn1.ext.trans hn3.ext).trans hx8).trans hx12).trans hn13.ext).then' hp15.only (by simp) (Nat.le_trans (Nat.le_trans (Nat.le_trans hn1.ext.size hn3.ext.size) hx8.size) hx12.size)).trans hx19).trans hn20.ext).then' hp22.only (by simp) (Nat.le_trans (Nat.le_trans (Nat.le_trans (Nat.le_trans (Nat.le_trans (Nat.le_trans hn1.ext.size hn3.ext.size) hx8.size) hx12.size) hn13.ext.size) hp15.only.size) hx19.size))) (hE.ext ((((((((hn1.ext.trans hn3.ext).trans hx8).trans hx12).trans hn13.ext).then' hp15.only (by simp) (Nat.le_trans (Nat.le_trans (Nat.le_trans hn1.ext.size hn3.ext.size) hx8.size) hx12.size)).trans hx19).trans hn20.ext).then' hp22.only (by simp) (Nat.le_trans (Nat.le_trans (Nat.le_trans (Nat.le_trans (Nat.le_trans (Nat.le_trans hn1.ext.size hn3.ext.size) hx8.size) hx12.size) hn13.ext.size) hp15.only.size) hx19.size))) (hT.ext ((((((((hn1.ext.trans hn3.ext).trans hx8).trans hx12).trans hn13.ext).then' hp15.only (by simp) (Nat.le_trans (Nat.le_trans (Nat.le_trans hn1.ext.size hn3.ext.size) hx8.size) hx12.size)).trans hx19).trans hn20.ext).then' hp22.only (by simp) (Nat.le_trans (Nat.le_trans (Nat.le_trans (Nat.le_trans (Nat.le_trans (Nat.le_trans hn1.ext.size hn3.ext.size) hx8.size) hx12.size) hn13.ext.size) hp15.only.size) hx19.size)))) rfl rfl rfl ?_
      rintro _ h13 ⟨rfl, hx25⟩
      refine L_yld (Y_assign rfl) rfl rfl rfl ?_
      refine L_nil ?_
      refine X_then ?_
      refine W_sub _ (.cons (i := 4) rfl (.cons (i := 9) rfl (.cons (i := 8) rfl (.cons (i := 6) rfl (.cons (i := 5) rfl (.cons (i := 3) rfl (.cons (i := 2) rfl (.nil _)))))))) ?_
      refine W_ret ?_
      refine X_then_ret ?_
      refine X_ret1 rfl rfl ?_
      exact ⟨rfl, (((((((((hn1.ext.trans hn3.ext).trans hx8).trans hx12).trans hn13.ext).then' hp15.only (by simp) (Nat.le_trans (Nat.le_trans (Nat.le_trans hn1.ext.size hn3.ext.size) hx8.size) hx12.size)).trans hx19).trans hn20.ext).then' hp22.only (by simp) (Nat.le_trans (Nat.le_trans (Nat.le_trans (Nat.le_trans (Nat.le_trans (Nat.le_trans hn1.ext.size hn3.ext.size) hx8.size) hx12.size) hn13.ext.size) hp15.only.size) hx19.size)).trans hx25)⟩
    · refine W_skip ?_
      refine X_then ?_
      refine W_sub _ (.cons (i := 9) rfl (.cons (i := 8) rfl (.cons (i := 6) rfl (.cons (i := 5) rfl (.cons (i := 4) rfl (.cons (i := 3) rfl (.cons (i := 2) rfl (.nil _)))))))) ?_
      refine W_seq ?_
      refine W_pers [(9, s117), (8, .pointer (some ⟨h10.size, 0, none⟩)), (6, s110), (5, .pointer (some ⟨h7.size, 0, none⟩)), (3, .pointer (some ⟨h1.size, 0, none⟩)), (2, .pointer (some ⟨h.size, 0, none⟩))] (.cons (i := 9) rfl (.cons (i := 8) rfl (.cons (i := 6) rfl (.cons (i := 5) rfl (.cons (i := 3) rfl (.cons (i := 2) rfl (.nil _))))))) (by kernel_rfl) ?_
      refine LP_op 0 (fun _ vv => .bool true = vv) [] rfl rfl (by kernel_rfl) (fun _ _ _ _ p => p) ?_ ?_
      · intro h14 hx26
        refine Needs_nil ?_
        refine Stp_call (E_call (by kernel_rfl) rfl) (law10_alive _ (hK.ext (((((((((hn1.ext.trans hn3.ext).trans hx8).trans hx12).trans hn13.ext).then' hp15.only (by simp) (Nat.le_trans (Nat.le_trans (Nat.le_trans hn1.ext.size hn3.ext.size) hx8.size) hx12.size)).trans hx19).trans hn20.ext).then' hp22.only (by simp) (Nat.le_trans (Nat.le_trans (Nat.le_trans (Nat.le_trans (Nat.le_trans (Nat.le_trans hn1.ext.size hn3.ext.size) hx8.size) hx12.size) hn13.ext.size) hp15.only.size) hx19.size)).trans hx26)) (hN.ext (((((((((hn1.ext.trans hn3.ext).trans hx8).trans hx12).trans hn13.ext).then' hp15.only (by simp) (Nat.le_trans (Nat.le_trans (Nat.le_trans hn1.ext.size hn3.ext.size) hx8.size) hx12.size)).trans hx19).trans hn20.ext).then' hp22.only (by simp) (Nat.le_trans (Nat.le_trans (Nat.le_trans (Nat.le_trans (Nat.le_trans (Nat.le_trans hn1.ext.size hn3.ext.size) hx8.size) hx12.size) hn13.ext.size) hp15.only.size) hx19.size)).trans hx26)) (hE.ext (((((((((hn1.ext.trans hn3.ext).trans hx8).trans hx12).trans hn13.ext).then' hp15.only (by simp) (Nat.le_trans (Nat.le_trans (Nat.le_trans hn1.ext.size hn3.ext.size) hx8.size) hx12.size)).trans hx19).trans hn20.ext).then' hp22.only (by simp) (Nat.le_trans (Nat.le_trans (Nat.le_trans (Nat.le_trans (Nat.le_trans (Nat.le_trans hn1.ext.size hn3.ext.size) hx8.size) hx12.size) hn13.ext.size) hp15.only.size) hx19.size)).trans hx26)) (hT.ext (((((((((hn1.ext.trans hn3.ext).trans hx8).trans hx12).trans hn13.ext).then' hp15.only (by simp) (Nat.le_trans (Nat.le_trans (Nat.le_trans hn1.ext.size hn3.ext.size) hx8.size) hx12.size)).trans hx19).trans hn20.ext).then' hp22.only (by simp) (Nat.le_trans (Nat.le_trans (Nat.le_trans (Nat.le_trans (Nat.le_trans (Nat.le_trans hn1.ext.size hn3.ext.size) hx8.size) hx12.size) hn13.ext.size) hp15.only.size) hx19.size)).trans hx26))) rfl ?_
        rintro _ h15 ⟨rfl, hx27⟩
        exact ⟨hx27, rfl⟩
      refine LP_op 1 (fun _ vv => .bool true = vv) [(0, 39)] rfl rfl (by kernel_rfl) (fun _ _ _ _ p => p) ?_ ?_
      · intro h16 hx28
        rintro _ rfl
        refine Needs_nil ?_
        refine Stp_yld (Y_move rfl) rfl ?_
        exact rfl
      refine LP_op 2 (fun _ vv => .agg #[.int .i64 (k), str p, .int .i64 (m), str tg, .int .i64 (z)] = vv) [(1, 40)] rfl rfl (by kernel_rfl) (fun _ _ _ _ p => p) ?_ ?_
      · intro h17 hx29
        rintro _ rfl
        refine Needs_nil ?_
        refine Stp_yld (Y_ldbox (us := [.int .i64 (k), str p, .int .i64 (m), str tg, .int .i64 (z)]) Tryd.underlying46 rfl (show _ = some 5 by kernel_rfl) rfl (hk2.ext ((((((((hn3.ext.trans hx8).trans hx12).trans hn13.ext).then' hp15.only (by simp) (Nat.le_trans (Nat.le_trans hn3.ext.size hx8.size) hx12.size)).trans hx19).trans hn20.ext).then' hp22.only (by simp) (Nat.le_trans (Nat.le_trans (Nat.le_trans (Nat.le_trans (Nat.le_trans hn3.ext.size hx8.size) hx12.size) hn13.ext.size) hp15.only.size) hx19.size)).trans hx29)) rfl) rfl ?_
        exact rfl
      refine LP_op 3 (fun _ vv => .agg #[.int .i64 (k'), str p', .int .i64 (m'), str tg', .int .i64 (z')] = vv) [(1, 40)] rfl rfl (by kernel_rfl) (fun _ _ _ _ p => p) ?_ ?_
      · intro h18 hx30
        rintro _ rfl
        refine Needs_nil ?_
        refine Stp_yld (Y_ldbox (us := [.int .i64 (k'), str p', .int .i64 (m'), str tg', .int .i64 (z')]) Tryd.underlying46 rfl (show _ = some 5 by kernel_rfl) rfl (hk4.ext (((((((hx8.trans hx12).trans hn13.ext).then' hp15.only (by simp) (Nat.le_trans hx8.size hx12.size)).trans hx19).trans hn20.ext).then' hp22.only (by simp) (Nat.le_trans (Nat.le_trans (Nat.le_trans (Nat.le_trans hx8.size hx12.size) hn13.ext.size) hp15.only.size) hx19.size)).trans hx30)) rfl) rfl ?_
        exact rfl
      refine LP_op 4 (fun _ vv => .bool (decide (k = k' ∧ p = p' ∧ m = m' ∧ tg = tg' ∧ z = z')) = vv) [(1, 40), (2, 41), (3, 42)] rfl rfl (by kernel_rfl) (fun _ _ _ _ p => p) ?_ ?_
      · intro h19 hx31
        rintro _ rfl
        rintro _ rfl
        rintro _ rfl
        refine Needs_nil ?_
        refine Stp_yld (Y_steql (xs := [.int .i64 (k), str p, .int .i64 (m), str tg, .int .i64 (z)]) (ys := [.int .i64 (k'), str p', .int .i64 (m'), str tg', .int .i64 (z')]) (r := decide (k = k' ∧ p = p' ∧ m = m' ∧ tg = tg' ∧ z = z')) (by kernel_rfl) (by kernel_rfl) (by kernel_rfl) rfl rfl (steq (ks := [.i .i64, .s, .i .i64, .s, .i .i64]) (by kernel_rfl) (by simp [eqks, eqk]))) rfl ?_
        exact rfl
      refine LP_op 5 (fun _ vv => .agg #[.int .u8 (fT (fcheck k p m tg z) k), str (fN (fcheck k p m tg z) p), str (fP (fcheck k p m tg z) p), str (fL (fcheck k p m tg z) tg), .int .i64 (fM (fcheck k p m tg z) m), .int .i64 (fZ (fcheck k p m tg z) z)] = vv) [(1, 40)] rfl rfl (by kernel_rfl) (fun _ _ _ _ p => p) ?_ ?_
      · intro h20 hx32
        rintro _ rfl
        refine Needs_nil ?_
        refine Stp_yld (Y_ldbox (us := [.int .u8 (fT (fcheck k p m tg z) k), str (fN (fcheck k p m tg z) p), str (fP (fcheck k p m tg z) p), str (fL (fcheck k p m tg z) tg), .int .i64 (fM (fcheck k p m tg z) m), .int .i64 (fZ (fcheck k p m tg z) z)]) Tryd.underlying48 rfl (show _ = some 6 by kernel_rfl) rfl (hk16.ext (((hx19.trans hn20.ext).then' hp22.only (by simp) hx19.size).trans hx32)) rfl) rfl ?_
        exact rfl
      refine LP_op 6 (fun _ vv => .agg #[.int .u8 (fT (fcheck k' p' m' tg' z') k'), str (fN (fcheck k' p' m' tg' z') p'), str (fP (fcheck k' p' m' tg' z') p'), str (fL (fcheck k' p' m' tg' z') tg'), .int .i64 (fM (fcheck k' p' m' tg' z') m'), .int .i64 (fZ (fcheck k' p' m' tg' z') z')] = vv) [(1, 40)] rfl rfl (by kernel_rfl) (fun _ _ _ _ p => p) ?_ ?_
      · intro h21 hx33
        rintro _ rfl
        refine Needs_nil ?_
        refine Stp_yld (Y_ldbox (us := [.int .u8 (fT (fcheck k' p' m' tg' z') k'), str (fN (fcheck k' p' m' tg' z') p'), str (fP (fcheck k' p' m' tg' z') p'), str (fL (fcheck k' p' m' tg' z') tg'), .int .i64 (fM (fcheck k' p' m' tg' z') m'), .int .i64 (fZ (fcheck k' p' m' tg' z') z')]) Tryd.underlying48 rfl (show _ = some 6 by kernel_rfl) rfl (hk23.ext hx33) rfl) rfl ?_
        exact rfl
      refine LP_op 7 (fun _ vv => .bool (decide ((fT (fcheck k p m tg z) k) = (fT (fcheck k' p' m' tg' z') k') ∧ (fN (fcheck k p m tg z) p) = (fN (fcheck k' p' m' tg' z') p') ∧ (fP (fcheck k p m tg z) p) = (fP (fcheck k' p' m' tg' z') p') ∧ (fL (fcheck k p m tg z) tg) = (fL (fcheck k' p' m' tg' z') tg') ∧ (fM (fcheck k p m tg z) m) = (fM (fcheck k' p' m' tg' z') m') ∧ (fZ (fcheck k p m tg z) z) = (fZ (fcheck k' p' m' tg' z') z'))) = vv) [(1, 40), (5, 44), (6, 45)] rfl rfl (by kernel_rfl) (fun _ _ _ _ p => p) ?_ ?_
      · intro h22 hx34
        rintro _ rfl
        rintro _ rfl
        rintro _ rfl
        refine Needs_nil ?_
        refine Stp_yld (Y_steql (xs := [.int .u8 (fT (fcheck k p m tg z) k), str (fN (fcheck k p m tg z) p), str (fP (fcheck k p m tg z) p), str (fL (fcheck k p m tg z) tg), .int .i64 (fM (fcheck k p m tg z) m), .int .i64 (fZ (fcheck k p m tg z) z)]) (ys := [.int .u8 (fT (fcheck k' p' m' tg' z') k'), str (fN (fcheck k' p' m' tg' z') p'), str (fP (fcheck k' p' m' tg' z') p'), str (fL (fcheck k' p' m' tg' z') tg'), .int .i64 (fM (fcheck k' p' m' tg' z') m'), .int .i64 (fZ (fcheck k' p' m' tg' z') z')]) (r := decide ((fT (fcheck k p m tg z) k) = (fT (fcheck k' p' m' tg' z') k') ∧ (fN (fcheck k p m tg z) p) = (fN (fcheck k' p' m' tg' z') p') ∧ (fP (fcheck k p m tg z) p) = (fP (fcheck k' p' m' tg' z') p') ∧ (fL (fcheck k p m tg z) tg) = (fL (fcheck k' p' m' tg' z') tg') ∧ (fM (fcheck k p m tg z) m) = (fM (fcheck k' p' m' tg' z') m') ∧ (fZ (fcheck k p m tg z) z) = (fZ (fcheck k' p' m' tg' z') z'))) (by kernel_rfl) (by kernel_rfl) (by kernel_rfl) rfl rfl (steq (ks := [.i .u8, .s, .s, .s, .i .i64, .i .i64]) (by kernel_rfl) (by simp [eqks, eqk]))) rfl ?_
        exact rfl
      refine LP_op 8 (fun _ vv => .bool false = vv) [(1, 40), (7, 46)] rfl rfl (by kernel_rfl) (fun _ _ _ _ p => p) ?_ ?_
      · intro h23 hx35
        rintro _ rfl
        rintro _ rfl
        refine Needs_nil ?_
        refine Stp_yld (Y_move rfl) rfl ?_
        exact (congrArg Value.bool (decide_eq_false (by exact hq))).symm
      refine LP_op 9 (fun _ vv => undef = vv) [(8, 47)] rfl rfl (by kernel_rfl) (fun _ _ _ _ p => p) ?_ ?_
      · intro h24 hx36
        rintro _ rfl
        refine Needs_nil ?_
        refine Stp_skip rfl ?_
        exact rfl
      refine LP_op 10 (fun _ vv => undef = vv) [(8, 47)] rfl rfl (by kernel_rfl) (fun _ _ _ _ p => p) ?_ ?_
      · intro h25 hx37
        rintro _ rfl
        refine Needs_nil ?_
        refine Stp_skip rfl ?_
        exact rfl
      refine LP_op 11 (fun _ vv => undef = vv) [(9, 48), (10, 49), (8, 47)] rfl rfl (by kernel_rfl) (fun _ _ _ _ p => p) ?_ ?_
      · intro h26 hx38
        rintro _ rfl
        rintro _ rfl
        rintro _ rfl
        refine Needs_nil ?_
        refine Stp_skip rfl ?_
        exact rfl
      refine LP_op 12 (fun _ vv => .bool false = vv) [(1, 40), (11, 50), (8, 47)] rfl rfl (by kernel_rfl) (fun _ _ _ _ p => p) ?_ ?_
      · intro h27 hx39
        rintro _ rfl
        rintro _ rfl
        rintro _ rfl
        refine Needs_nil ?_
        refine Stp_yld (Y_pick_f rfl rfl) rfl ?_
        exact rfl
      refine LP_op 13 (fun _ vv => .bool ((decide (k = k' ∧ p = p' ∧ m = m' ∧ tg = tg' ∧ z = z')) == false) = vv) [(1, 40), (12, 51), (4, 43)] rfl rfl (by kernel_rfl) (fun _ _ _ _ p => p) ?_ ?_
      · intro h28 hx40
        rintro _ rfl
        rintro _ rfl
        rintro _ rfl
        refine Needs_nil ?_
        refine Stp_yld (Y_beql Tryd.underlying4 rfl rfl) rfl ?_
        exact rfl
      refine LP_op 14 (fun _ vv => .bool ((decide (k = k' ∧ p = p' ∧ m = m' ∧ tg = tg' ∧ z = z')) == false) = vv) [(1, 40), (13, 52)] rfl rfl (by kernel_rfl) (fun _ _ _ _ p => p) ?_ ?_
      · intro h29 hx41
        rintro _ rfl
        rintro _ rfl
        refine Needs_nil ?_
        refine Stp_yld (Y_pick_t rfl rfl) rfl ?_
        exact rfl
      refine LP_op 15 (fun _ vv => .bool ((decide (k = k' ∧ p = p' ∧ m = m' ∧ tg = tg' ∧ z = z')) == false) = vv) [(14, 53)] rfl rfl (by kernel_rfl) (fun _ _ _ _ p => p) ?_ ?_
      · intro h30 hx42
        rintro _ rfl
        refine Needs_nil ?_
        refine Stp_yld (Y_assign rfl) rfl ?_
        exact rfl
      refine LP_end [(15, 4)] rfl (by kernel_rfl) rfl ?_
      intro h31 hx43
      rintro _ rfl
      refine Needs_nil ?_
      refine X_then ?_
      refine W_sub _ (.cons (i := 4) rfl (.nil _)) ?_
      refine W_ret ?_
      refine X_ret1 rfl rfl ?_
      exact ⟨congrArg Value.bool (beq_iff_eq.2 (decide_eq_false (fun e => hq (by obtain ⟨rfl, rfl, rfl, rfl, rfl⟩ := e; exact ⟨rfl, rfl, rfl, rfl, rfl, rfl⟩)))), (((((((((hn1.ext.trans hn3.ext).trans hx8).trans hx12).trans hn13.ext).then' hp15.only (by simp) (Nat.le_trans (Nat.le_trans (Nat.le_trans hn1.ext.size hn3.ext.size) hx8.size) hx12.size)).trans hx19).trans hn20.ext).then' hp22.only (by simp) (Nat.le_trans (Nat.le_trans (Nat.le_trans (Nat.le_trans (Nat.le_trans (Nat.le_trans hn1.ext.size hn3.ext.size) hx8.size) hx12.size) hn13.ext.size) hp15.only.size) hx19.size)).trans hx43)⟩
theorem fitIsInjective (h : Heap) (hK : GlbK h) (hN : GlbN h) (hE : GlbE h) (hT : GlbT h) (k : Int) (p : List UInt8) (m : Int) (tg : List UInt8) (z : Int) (k' : Int) (p' : List UInt8) (m' : Int) (tg' : List UInt8) (z' : Int)
    (hk : -9223372036854775808 ≤ k ∧ k ≤ 9223372036854775807) (hp : p.length ≤ 140737488355328) (hm : -9223372036854775808 ≤ m ∧ m ≤ 9223372036854775807) (ht : tg.length ≤ 140737488355328) (hz : -9223372036854775808 ≤ z ∧ z ≤ 9223372036854775807)
    (hk' : -9223372036854775808 ≤ k' ∧ k' ≤ 9223372036854775807) (hp' : p'.length ≤ 140737488355328) (hm' : -9223372036854775808 ≤ m' ∧ m' ≤ 9223372036854775807) (ht' : tg'.length ≤ 140737488355328) (hz' : -9223372036854775808 ≤ z' ∧ z' ≤ 9223372036854775807) :
    Cal Tryd.prog 10 #[.agg #[.int .i64 k, str p, .int .i64 m, str tg, .int .i64 z], .agg #[.int .i64 k', str p', .int .i64 m', str tg', .int .i64 z']] h (fun v h' => v = .bool true ∧ Ext h h') := by
  by_cases hq : hdEq (fcheck k p m tg z) k p m tg z (fcheck k' p' m' tg' z') k' p' m' tg' z'
  · exact fitIsInjectiveE h hK hN hE hT k p m tg z k' p' m' tg' z' hk hp hm ht hz hk' hp' hm' ht' hz' hq
  · exact fitIsInjectiveN h hK hN hE hT k p m tg z k' p' m' tg' z' hk hp hm ht hz hk' hp' hm' ht' hz' hq
end Go.Xp
