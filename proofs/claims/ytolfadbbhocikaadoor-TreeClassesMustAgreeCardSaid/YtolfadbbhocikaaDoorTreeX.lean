/- Layer 13 (tree): two regular files in one class. -/
import Derived.Test.YtolfadbbhocikaaDoorTreeV
import Derived.Test.YtolfadbbhocikaaDoorAppE
set_option linter.unusedSimpArgs false
set_option linter.unusedVariables false
set_option linter.unusedSectionVars false
namespace Go.Xp
open Go.Proofs

section
variable {p : List UInt8} {m : Int} {v : Value} {a : List UInt8} {c : Int}
theorem tone_file (hp : pcheck p = 0) (hm : 0 ≤ m ∧ m ≤ 4095) (ha : a.length ≤ 1000) (hc : 0 ≤ c) : tone ⟨1, p, m, [], v, a, c⟩ = 0 := by
  have hn : nfc ⟨1, p, m, [], v, a, c⟩ = 0 := by
    show fcheck 1 p m [] (nsize ⟨1, p, m, [], v, a, c⟩) = 0
    have e : nsize ⟨1, p, m, [], v, a, c⟩ = (a.length : Int) := if_pos rfl
    have h2 : ftarget 1 [] = 0 := by decide +kernel
    rw [e]
    unfold fcheck
    rw [if_neg (by omega), if_neg (by rw [hp]; simp), if_neg (by omega), if_neg (by rw [h2]; simp)]
    unfold fsize
    rw [if_neg (fun h => by have := h.2; omega), if_neg (fun h => h.1 rfl)]
  unfold tone
  rw [hn, if_neg (show ¬ ((1 : Int) < 0 ∨ (2 : Int) < 1) by omega), if_neg (by simp), if_neg (show ¬ (¬ (1 : Int) = 1 ∧ 0 < a.length) from fun h => h.1 rfl), if_neg (show ¬ (c < 0 ∨ (¬ (1 : Int) = 1 ∧ ¬ c = 0)) by omega)]
end
section
variable {m m' : Int} {v v' : Value} {a b : List UInt8} {c : Int}
abbrev two (m m' : Int) (v v' : Value) (a b : List UInt8) (c : Int) : List Nod := [⟨1, [120], m, [], v, a, 1⟩, ⟨1, [121], m', [], v', b, c⟩]
theorem two_one (hm : 0 ≤ m ∧ m ≤ 4095) (hm' : 0 ≤ m' ∧ m' ≤ 4095) (ha : a.length ≤ 1000) (hb : b.length ≤ 1000) (hc : 0 ≤ c) : ∀ k, k < (two m m' v v' a b c).length → tone (at_nod (two m m' v v' a b c) k) = 0 := by
  intro k hk
  match k, hk with
  | 0, _ => exact tone_file (p := [120]) (by decide +kernel) hm ha (by decide)
  | 1, _ => exact tone_file (p := [121]) (by decide +kernel) hm' hb hc
theorem two_par (k : Nat) (hk : k < 2) : fnd (two m m' v v' a b c) (pparent (at_nod (two m m' v v' a b c) k).path) (two m m' v v' a b c).length = true := by
  refine fnd_iff.2 (.inl ?_)
  match k, hk with
  | 0, _ => show pparent [120] = []; decide
  | 1, _ => show pparent [121] = []; decide
theorem two_dup (k : Nat) (hk : k < 2) : dupb (two m m' v v' a b c) k = false := by
  rw [← Bool.not_eq_true, dupb_iff]
  rintro ⟨j, hj, e⟩
  match k, hk, j, hj, e with
  | 1, _, 0, _, e => exact absurd (show ([120] : List UInt8) = [121] from e) (by decide)
theorem two_zero : ttog (two m m' v v' a b c) 0 = 0 := by
  refine ttog_ok (two_dup 0 (by decide)) (two_par 0 (by decide)) (fun _ => ?_)
  have : nfirst (two m m' v v' a b c) (at_nod (two m m' v v' a b c) 0).cls = 0 := if_pos rfl
  rw [this]; exact ⟨rfl, rfl⟩
theorem two_res2 (hm : 0 ≤ m ∧ m ≤ 4095) (hm' : 0 ≤ m' ∧ m' ≤ 4095) (ha : a.length ≤ 1000) (hb : b.length ≤ 1000) : tpos (two m m' v v' a b 2) = 2 ∧ terr (two m m' v v' a b 2) = 0 := by
  refine tres0 (two_one hm hm' ha hb (by decide)) (fun k hk => ?_)
  match k, hk with
  | 0, _ => exact two_zero
  | 1, _ =>
    refine ttog_ok (two_dup 1 (by decide)) (two_par 1 (by decide)) (fun _ => ?_)
    have : nfirst (two m m' v v' a b 2) (at_nod (two m m' v v' a b 2) 1).cls = 1 := by
      show nfirst (two m m' v v' a b 2) 2 = 1
      simp [nfirst]
    rw [this]; exact ⟨rfl, rfl⟩
theorem two_first : nfirst (two m m' v v' a b 1) (at_nod (two m m' v v' a b 1) 1).cls = 0 := if_pos rfl
theorem two_yes (hm : 0 ≤ m ∧ m ≤ 4095) (hm' : 0 ≤ m' ∧ m' ≤ 4095) (ha : a.length ≤ 1000) (hb : b.length ≤ 1000) (h : m = m' ∧ a = b) : tpos (two m m' v v' a b 1) = 2 ∧ terr (two m m' v v' a b 1) = 0 := by
  refine tres0 (two_one hm hm' ha hb (by decide)) (fun k hk => ?_)
  match k, hk with
  | 0, _ => exact two_zero
  | 1, _ =>
    refine ttog_ok (two_dup 1 (by decide)) (two_par 1 (by decide)) (fun _ => ?_)
    rw [two_first]; exact h
theorem two_no (hm : 0 ≤ m ∧ m ≤ 4095) (hm' : 0 ≤ m' ∧ m' ≤ 4095) (ha : a.length ≤ 1000) (hb : b.length ≤ 1000) (h : ¬ (m = m' ∧ a = b)) : tpos (two m m' v v' a b 1) = 1 ∧ terr (two m m' v v' a b 1) = 15 := by
  have e : ttog (two m m' v v' a b 1) 1 = 15 := tg15 (f := 0) (two_dup 1 (by decide)) (two_par 1 (by decide)) (show ¬ (1 : Int) = 0 by decide) two_first (by
    show ¬ m = m' ∨ ¬ a = b
    by_cases h1 : m = m'
    · exact .inr (fun h2 => h ⟨h1, h2⟩)
    · exact .inl h1)
  have := tres2 (l := two m m' v v' a b 1) (i := 1) (two_one hm hm' ha hb (by decide)) (fun k hk => by
    have : k = 0 := by omega
    subst this; exact two_zero) (show 1 < 2 by decide) (by rw [e]; decide)
  rw [e] at this; exact this
end
set_option maxRecDepth 100000 in
theorem treeClassesMustAgree' (h : Heap) (hK : GlbK h) (hE : GlbE h) (m0 : Int) (m1 : Int) (xa : Option Addr) (na : Nat) (ca : Nat) (a : List UInt8) (ha : Bytes h (.slice xa na ca) a) (xb : Option Addr) (nb' : Nat) (cb : Nat) (b : List UInt8) (hb : Bytes h (.slice xb nb' cb) b) (hm0 : 0 ≤ m0 ∧ m0 ≤ 65535) (hm1 : 0 ≤ m1 ∧ m1 ≤ 65535) (hal : a.length ≤ 140737488355328) (hbl : b.length ≤ 140737488355328) : Cal Tryd.prog 4 #[.agg #[.int .u16 (m0), .int .u16 (m1)], .slice xa na ca, .slice xb nb' cb] h (fun v h' => v = .bool true ∧ Ext h h') := by
  refine Cal_enter (args := [.agg #[.int .u16 (m0), .int .u16 (m1)], .slice xa na ca, .slice xb nb' cb]) Tryd.func4 rfl rfl rfl (fun σ => ?_)
  refine W_seq ?_
  refine W_region ?_
  refine L_mks (M_box rfl) rfl rfl rfl ?_
  rintro _ h1 ⟨rfl, hn1⟩
  have hk2 : Blk h1 h.size [.int .u16 (m0), .int .u16 (m1)] := hn1.blk
  refine L_yld (Y_assign rfl) rfl rfl rfl ?_
  refine L_nil ?_
  refine X_then ?_
  refine W_sub _ (.cons (i := 6) rfl (.cons (i := 3) rfl (.cons (i := 1) rfl (.cons (i := 2) rfl (.nil _))))) ?_
  refine W_seq ?_
  refine W_cut (S := Unit) (fun _ => [(21, .bool (decide ((1000 < (a.length : Int)) ∨ (1000 < (b.length : Int))))), (6, .bool false), (3, .pointer (some ⟨h.size, 0, none⟩)), (1, .slice xa na ca), (2, .slice xb nb' cb)]) (fun _ h' => h' = h1) ?_ ?_
  · refine W_region ?_
    refine L_yld (Y_move rfl) rfl rfl rfl ?_
    refine L_yld (Y_len Tryd.underlying28 rfl (ha.ext hn1.ext)) rfl rfl rfl ?_
    refine L_yld (Y_gtr rfl rfl) rfl rfl rfl ?_
    refine L_yld (Y_move rfl) rfl rfl rfl ?_
    refine L_splitd (d := 17) rfl (fun c3 => ?_) (fun c3 => ?_)
    · refine L_skip rfl rfl rfl ?_
      refine L_skip rfl rfl rfl ?_
      refine L_skip rfl rfl rfl ?_
      refine L_yld (Y_pick_t rfl rfl) rfl rfl rfl ?_
      refine L_nil ?_
      exact X_cut () (.cons (i := 21) (lkb rfl (by simp only [eq_true c3, true_and, and_true, false_and, and_false, true_or, or_true, false_or, or_false, not_true_eq_false, not_false_eq_true, decide_true, decide_false, Bool.true_eq_false, Bool.false_eq_true, eq_self, Bool.decide_eq_true])) (.cons (i := 6) rfl (.cons (i := 3) rfl (.cons (i := 1) rfl (.cons (i := 2) rfl (.nil _)))))) rfl
    · refine L_yld (Y_move rfl) rfl rfl rfl ?_
      refine L_yld (Y_len Tryd.underlying28 rfl (hb.ext hn1.ext)) rfl rfl rfl ?_
      refine L_yld (Y_gtr rfl rfl) rfl rfl rfl ?_
      refine L_yld (Y_pick_f rfl rfl) rfl rfl rfl ?_
      refine L_nil ?_
      exact X_cut () (.cons (i := 21) (lkb rfl (by simp only [eq_false c3, true_and, and_true, false_and, and_false, true_or, or_true, false_or, or_false, not_true_eq_false, not_false_eq_true, decide_true, decide_false, Bool.true_eq_false, Bool.false_eq_true, eq_self, Bool.decide_eq_true])) (.cons (i := 6) rfl (.cons (i := 3) rfl (.cons (i := 1) rfl (.cons (i := 2) rfl (.nil _)))))) rfl
  rintro _ h1 rfl
  show W _ _ _ _ _ [(21, .bool (decide ((1000 < (a.length : Int)) ∨ (1000 < (b.length : Int))))), (6, .bool false), (3, .pointer (some ⟨h.size, 0, none⟩)), (1, .slice xa na ca), (2, .slice xb nb' cb)] _
  refine W_splitd rfl (fun g => ?_) (fun g => ?_)
  · refine W_seq ?_
    refine W_region ?_
    refine L_call (E_call (by kernel_rfl) rfl) (law13_alive _ (hK.ext hn1.ext) (hE.ext hn1.ext)) rfl rfl rfl ?_
    rintro _ h2 ⟨rfl, hx4⟩
    refine L_yld (Y_assign rfl) rfl rfl rfl ?_
    refine L_nil ?_
    refine X_then ?_
    refine W_sub _ (.cons (i := 6) rfl (.cons (i := 3) rfl (.cons (i := 1) rfl (.cons (i := 2) rfl (.nil _))))) ?_
    refine W_ret ?_
    refine X_then_ret ?_
    refine X_ret1 rfl rfl ?_
    exact ⟨rfl, (hn1.ext.trans hx4)⟩
  · refine W_skip ?_
    refine X_then ?_
    refine W_sub _ (.cons (i := 6) rfl (.cons (i := 3) rfl (.cons (i := 1) rfl (.cons (i := 2) rfl (.nil _))))) ?_
    have hq0 : 0 ≤ m0 % 4096 ∧ m0 % 4096 ≤ 4095 := by omega
    have hq1 : 0 ≤ m1 % 4096 ∧ m1 % 4096 ≤ 4095 := by omega
    have hla : a.length ≤ 1000 := by omega
    have hlb : b.length ≤ 1000 := by omega
    refine W_seq ?_
    refine W_region ?_
    refine L_yld (Y_arrlit (off := 0) Tryd.underlying33 (show _ = some 1 by kernel_rfl) rfl rfl (by decide) (by decide) rfl) rfl rfl rfl ?_
    refine L_yld (Y_ldblk Tryd.underlying32 rfl rfl hk2 rfl) rfl rfl rfl ?_
    refine L_yld (Y_convs Tryd.underlying32 Tryd.underlying3 rfl (wrap_i64 (by omega) (by omega))) rfl rfl rfl ?_
    refine L_yld (Y_rem rfl rfl (by omega) (by omega)) rfl rfl rfl ?_
    refine L_yld (Y_move rfl) rfl rfl rfl ?_
    refine L_yld (Y_build (v := .agg #[.int .i64 1, str [120], .int .i64 (m0 % 4096), str [], .slice xa na ca, .int .i64 1]) (pv := [(0, .int .i64 1), (1, str [120]), (2, .int .i64 (m0 % 4096)), (4, .slice xa na ca), (5, .int .i64 1)]) (evp (is := [0, 1, 2, 4, 5]) (os := [.const (.int .i64 1), .const (str [120]), .tmp 26, .tmp 27, .const (.int .i64 1)]) (vs := [.int .i64 1, str [120], .int .i64 (m0 % 4096), .slice xa na ca, .int .i64 1]) rfl rfl) (fun _ => by kernel_rfl)) rfl rfl rfl ?_
    refine L_mks (M_alloc (u := .agg #[.int .i64 0, str [], .int .i64 0, str [], .slice none 0 0, .int .i64 0]) (by kernel_rfl)) rfl rfl rfl ?_
    rintro _ h3 ⟨rfl, hn5⟩
    have hk6 : Blk h3 h1.size [.int .i64 0, str [], .int .i64 0, str [], .slice none 0 0, .int .i64 0] := hn5.blk
    refine L_dos (D_store (us := [.int .i64 1, str [120], .int .i64 (m0 % 4096), str [], .slice xa na ca, .int .i64 1]) (show _ = some 6 by kernel_rfl) rfl rfl rfl (by intro u_ hu_; simp only [List.mem_cons, List.not_mem_nil, or_false] at hu_; rcases hu_ with rfl | rfl | rfl | rfl | rfl | rfl <;> first | rfl | exact ((ha.ext (hn1.ext.trans hn5.ext))).cell1) hk6 (by simp)) rfl rfl ?_
    rintro h4 hp7
    have hk8 : Blk h4 h1.size [.int .i64 1, str [120], .int .i64 (m0 % 4096), str [], .slice xa na ca, .int .i64 1] := hp7.blk
    refine L_nil ?_
    refine X_then ?_
    refine W_sub _ (.cons (i := 7) rfl (.cons (i := 6) rfl (.cons (i := 3) rfl (.cons (i := 1) rfl (.cons (i := 2) rfl (.nil _)))))) ?_
    refine W_seq ?_
    refine W_region ?_
    refine L_yld (Y_arrlit (off := 1) Tryd.underlying33 (show _ = some 1 by kernel_rfl) rfl rfl (by decide) (by decide) rfl) rfl rfl rfl ?_
    refine L_yld (Y_ldblk Tryd.underlying32 rfl rfl (hk2.ext (hn5.ext.then' hp7.only (by simp) (Nat.le_refl _))) rfl) rfl rfl rfl ?_
    refine L_yld (Y_convs Tryd.underlying32 Tryd.underlying3 rfl (wrap_i64 (by omega) (by omega))) rfl rfl rfl ?_
    refine L_yld (Y_rem rfl rfl (by omega) (by omega)) rfl rfl rfl ?_
    refine L_yld (Y_move rfl) rfl rfl rfl ?_
    refine L_yld (Y_build (v := .agg #[.int .i64 1, str [121], .int .i64 (m1 % 4096), str [], .slice xb nb' cb, .int .i64 1]) (pv := [(0, .int .i64 1), (1, str [121]), (2, .int .i64 (m1 % 4096)), (4, .slice xb nb' cb), (5, .int .i64 1)]) (evp (is := [0, 1, 2, 4, 5]) (os := [.const (.int .i64 1), .const (str [121]), .tmp 32, .tmp 33, .const (.int .i64 1)]) (vs := [.int .i64 1, str [121], .int .i64 (m1 % 4096), .slice xb nb' cb, .int .i64 1]) rfl rfl) (fun _ => by kernel_rfl)) rfl rfl rfl ?_
    refine L_mks (M_alloc (u := .agg #[.int .i64 0, str [], .int .i64 0, str [], .slice none 0 0, .int .i64 0]) (by kernel_rfl)) rfl rfl rfl ?_
    rintro _ h5 ⟨rfl, hn9⟩
    have hk10 : Blk h5 h4.size [.int .i64 0, str [], .int .i64 0, str [], .slice none 0 0, .int .i64 0] := hn9.blk
    refine L_dos (D_store (us := [.int .i64 1, str [121], .int .i64 (m1 % 4096), str [], .slice xb nb' cb, .int .i64 1]) (show _ = some 6 by kernel_rfl) rfl rfl rfl (by intro u_ hu_; simp only [List.mem_cons, List.not_mem_nil, or_false] at hu_; rcases hu_ with rfl | rfl | rfl | rfl | rfl | rfl <;> first | rfl | exact ((hb.ext (((hn1.ext.trans hn5.ext).then' hp7.only (by simp) hn1.ext.size).trans hn9.ext))).cell1) hk10 (by simp)) rfl rfl ?_
    rintro h6 hp11
    have hk12 : Blk h6 h4.size [.int .i64 1, str [121], .int .i64 (m1 % 4096), str [], .slice xb nb' cb, .int .i64 1] := hp11.blk
    refine L_nil ?_
    refine X_then ?_
    refine W_sub _ (.cons (i := 8) rfl (.cons (i := 7) rfl (.cons (i := 6) rfl (.cons (i := 1) rfl (.cons (i := 2) rfl (.nil _)))))) ?_
    refine W_seq ?_
    refine W_region ?_
    refine L_yld (Y_ldbox (us := [.int .i64 1, str [120], .int .i64 (m0 % 4096), str [], .slice xa na ca, .int .i64 1]) Tryd.underlying30 rfl (show _ = some 6 by kernel_rfl) rfl (hk8.ext (hn9.ext.then' hp11.only (by simp) (Nat.le_refl _))) rfl) rfl rfl rfl ?_
    refine L_yld (Y_ldbox (us := [.int .i64 1, str [121], .int .i64 (m1 % 4096), str [], .slice xb nb' cb, .int .i64 1]) Tryd.underlying30 rfl (show _ = some 6 by kernel_rfl) rfl hk12 rfl) rfl rfl rfl ?_
    refine L_mks (M_litr (S := nodS) (l := ([⟨(1 : Int), [120], m0 % 4096, [], .slice xa na ca, a, (1 : Int)⟩, ⟨(1 : Int), [121], m1 % 4096, [], .slice xb nb' cb, b, (1 : Int)⟩] : List Nod)) (cells := [.int .i64 1, str [120], .int .i64 (m0 % 4096), str [], .slice xa na ca, .int .i64 1, .int .i64 1, str [121], .int .i64 (m1 % 4096), str [], .slice xb nb' cb, .int .i64 1]) (pv := [(0, .agg #[.int .i64 1, str [120], .int .i64 (m0 % 4096), str [], .slice xa na ca, .int .i64 1]), (1, .agg #[.int .i64 1, str [121], .int .i64 (m1 % 4096), str [], .slice xb nb' cb, .int .i64 1])]) (E := 30) (evp (is := [0, 1]) (os := [.tmp 36, .tmp 37]) (vs := [.agg #[.int .i64 1, str [120], .int .i64 (m0 % 4096), str [], .slice xa na ca, .int .i64 1], .agg #[.int .i64 1, str [121], .int .i64 (m1 % 4096), str [], .slice xb nb' cb, .int .i64 1]]) rfl rfl) rfl rfl (fun _ => by kernel_rfl) (by simp only [List.mem_cons, List.not_mem_nil, or_false, forall_eq_or_imp, forall_eq]; exact ⟨(ha.ext ((((hn1.ext.trans hn5.ext).then' hp7.only (by simp) hn1.ext.size).trans hn9.ext).then' hp11.only (by simp) (Nat.le_trans (Nat.le_trans hn1.ext.size hn5.ext.size) hp7.only.size))), (hb.ext ((((hn1.ext.trans hn5.ext).then' hp7.only (by simp) hn1.ext.size).trans hn9.ext).then' hp11.only (by simp) (Nat.le_trans (Nat.le_trans hn1.ext.size hn5.ext.size) hp7.only.size)))⟩)) rfl rfl rfl ?_
    rintro v13 h7 ⟨ho14, hx15⟩
    refine L_call (E_call (by kernel_rfl) rfl) (tree_Check _ (hK.ext (((((hn1.ext.trans hn5.ext).then' hp7.only (by simp) hn1.ext.size).trans hn9.ext).then' hp11.only (by simp) (Nat.le_trans (Nat.le_trans hn1.ext.size hn5.ext.size) hp7.only.size)).trans hx15)) (hE.ext (((((hn1.ext.trans hn5.ext).then' hp7.only (by simp) hn1.ext.size).trans hn9.ext).then' hp11.only (by simp) (Nat.le_trans (Nat.le_trans hn1.ext.size hn5.ext.size) hp7.only.size)).trans hx15)) v13 ([⟨(1 : Int), [120], m0 % 4096, [], .slice xa na ca, a, (1 : Int)⟩, ⟨(1 : Int), [121], m1 % 4096, [], .slice xb nb' cb, b, (1 : Int)⟩] : List Nod) ho14.rows (show 2 ≤ 140737488355328 by decide) (by intro x hx; simp only [List.mem_cons, List.not_mem_nil, or_false] at hx; rcases hx with rfl | rfl <;> exact ⟨by show 1 ≤ _; decide, by show 0 ≤ _; decide, by first | exact hal | exact hbl⟩)) rfl rfl rfl ?_
    rintro _ h8 ⟨rfl, hx16⟩
    refine L_yld (Y_move rfl) rfl rfl rfl ?_
    refine L_yld (Y_extract (v := .int .i64 (tpos ([⟨(1 : Int), [120], m0 % 4096, [], .slice xa na ca, a, (1 : Int)⟩, ⟨(1 : Int), [121], m1 % 4096, [], .slice xb nb' cb, b, (1 : Int)⟩] : List Nod))) rfl rfl) rfl rfl rfl ?_
    refine L_yld (Y_extract (v := .int .i64 (terr ([⟨(1 : Int), [120], m0 % 4096, [], .slice xa na ca, a, (1 : Int)⟩, ⟨(1 : Int), [121], m1 % 4096, [], .slice xb nb' cb, b, (1 : Int)⟩] : List Nod))) rfl rfl) rfl rfl rfl ?_
    refine L_yld (Y_assign rfl) rfl rfl rfl ?_
    refine L_yld (Y_assign rfl) rfl rfl rfl ?_
    refine L_nil ?_
    refine X_then ?_
    refine W_sub _ (.cons (i := 10) rfl (.cons (i := 9) rfl (.cons (i := 8) rfl (.cons (i := 7) rfl (.cons (i := 6) rfl (.cons (i := 1) rfl (.cons (i := 2) rfl (.nil _)))))))) ?_
    refine W_cut (S := Unit) (fun _ => [(11, .bool (decide (((m0 % 4096) = (m1 % 4096)) ∧ (a = b)))), (10, .int .i64 (terr ([⟨(1 : Int), [120], m0 % 4096, [], .slice xa na ca, a, (1 : Int)⟩, ⟨(1 : Int), [121], m1 % 4096, [], .slice xb nb' cb, b, (1 : Int)⟩] : List Nod))), (9, .int .i64 (tpos ([⟨(1 : Int), [120], m0 % 4096, [], .slice xa na ca, a, (1 : Int)⟩, ⟨(1 : Int), [121], m1 % 4096, [], .slice xb nb' cb, b, (1 : Int)⟩] : List Nod))), (8, .pointer (some ⟨h4.size, 0, none⟩)), (7, .pointer (some ⟨h1.size, 0, none⟩)), (6, .bool false)]) (fun _ h' => h' = h8) ?_ ?_
    · refine W_region ?_
      refine L_yld (Y_fieldAddr (off := 2) (by kernel_rfl) rfl rfl) rfl rfl rfl ?_
      refine L_yld (Y_ldblk Tryd.underlying3 rfl rfl (hk8.ext (((hn9.ext.then' hp11.only (by simp) (Nat.le_refl _)).trans hx15).trans hx16)) rfl) rfl rfl rfl ?_
      refine L_yld (Y_fieldAddr (off := 2) (by kernel_rfl) rfl rfl) rfl rfl rfl ?_
      refine L_yld (Y_ldblk Tryd.underlying3 rfl rfl (hk12.ext (hx15.trans hx16)) rfl) rfl rfl rfl ?_
      refine L_yld (Y_eql rfl rfl) rfl rfl rfl ?_
      refine L_yld (Y_move rfl) rfl rfl rfl ?_
      refine L_splitd (d := 47) rfl (fun c17 => ?_) (fun c17 => ?_)
      · refine L_yld (Y_move rfl) rfl rfl rfl ?_
        refine L_yld (Y_bytes_str Tryd.underlying28 Tryd.underlying5 Tryd.underlying9 rfl (ha.ext ((((((hn1.ext.trans hn5.ext).then' hp7.only (by simp) hn1.ext.size).trans hn9.ext).then' hp11.only (by simp) (Nat.le_trans (Nat.le_trans hn1.ext.size hn5.ext.size) hp7.only.size)).trans hx15).trans hx16))) rfl rfl rfl ?_
        refine L_yld (Y_move rfl) rfl rfl rfl ?_
        refine L_yld (Y_bytes_str Tryd.underlying28 Tryd.underlying5 Tryd.underlying9 rfl (hb.ext ((((((hn1.ext.trans hn5.ext).then' hp7.only (by simp) hn1.ext.size).trans hn9.ext).then' hp11.only (by simp) (Nat.le_trans (Nat.le_trans hn1.ext.size hn5.ext.size) hp7.only.size)).trans hx15).trans hx16))) rfl rfl rfl ?_
        refine L_yld (Y_seql rfl rfl) rfl rfl rfl ?_
        refine L_yld (Y_pick_t rfl rfl) rfl rfl rfl ?_
        refine L_yld (Y_assign rfl) rfl rfl rfl ?_
        refine L_nil ?_
        exact X_cut () (.cons (i := 11) (lkb rfl (by simp only [eq_true c17, true_and, and_true, false_and, and_false, true_or, or_true, false_or, or_false, not_true_eq_false, not_false_eq_true, decide_true, decide_false, Bool.true_eq_false, Bool.false_eq_true, eq_self, Bool.decide_eq_true])) (.cons (i := 10) rfl (.cons (i := 9) rfl (.cons (i := 8) rfl (.cons (i := 7) rfl (.cons (i := 6) rfl (.nil _))))))) rfl
      · refine L_skip rfl rfl rfl ?_
        refine L_skip rfl rfl rfl ?_
        refine L_skip rfl rfl rfl ?_
        refine L_skip rfl rfl rfl ?_
        refine L_skip rfl rfl rfl ?_
        refine L_yld (Y_pick_f rfl rfl) rfl rfl rfl ?_
        refine L_yld (Y_assign rfl) rfl rfl rfl ?_
        refine L_nil ?_
        exact X_cut () (.cons (i := 11) (lkb rfl (by simp only [eq_false c17, true_and, and_true, false_and, and_false, true_or, or_true, false_or, or_false, not_true_eq_false, not_false_eq_true, decide_true, decide_false, Bool.true_eq_false, Bool.false_eq_true, eq_self, Bool.decide_eq_true])) (.cons (i := 10) rfl (.cons (i := 9) rfl (.cons (i := 8) rfl (.cons (i := 7) rfl (.cons (i := 6) rfl (.nil _))))))) rfl
    rintro _ h8 rfl
    show W _ _ _ _ _ [(11, .bool (decide (((m0 % 4096) = (m1 % 4096)) ∧ (a = b)))), (10, .int .i64 (terr ([⟨(1 : Int), [120], m0 % 4096, [], .slice xa na ca, a, (1 : Int)⟩, ⟨(1 : Int), [121], m1 % 4096, [], .slice xb nb' cb, b, (1 : Int)⟩] : List Nod))), (9, .int .i64 (tpos ([⟨(1 : Int), [120], m0 % 4096, [], .slice xa na ca, a, (1 : Int)⟩, ⟨(1 : Int), [121], m1 % 4096, [], .slice xb nb' cb, b, (1 : Int)⟩] : List Nod))), (8, .pointer (some ⟨h4.size, 0, none⟩)), (7, .pointer (some ⟨h1.size, 0, none⟩)), (6, .bool false)] _
    refine W_seq ?_
    refine W_region ?_
    refine L_yld (Y_fieldAddr (off := 5) (by kernel_rfl) rfl rfl) rfl rfl rfl ?_
    refine L_dos (D_store (us := [.int .i64 2]) (show _ = some 1 by kernel_rfl) rfl rfl rfl (by simp [Value.oneCell']) (hk12.ext (hx15.trans hx16)) (by simp)) rfl rfl ?_
    rintro h9 hp18
    have hk19 : Blk h9 h4.size [.int .i64 1, str [121], .int .i64 (m1 % 4096), str [], .slice xb nb' cb, .int .i64 2] := hp18.blk
    refine L_nil ?_
    refine X_then ?_
    refine W_sub _ (.cons (i := 11) rfl (.cons (i := 10) rfl (.cons (i := 9) rfl (.cons (i := 8) rfl (.cons (i := 7) rfl (.cons (i := 6) rfl (.nil _))))))) ?_
    refine W_seq ?_
    refine W_region ?_
    refine L_yld (Y_ldbox (us := [.int .i64 1, str [120], .int .i64 (m0 % 4096), str [], .slice xa na ca, .int .i64 1]) Tryd.underlying30 rfl (show _ = some 6 by kernel_rfl) rfl (hk8.ext ((((hn9.ext.then' hp11.only (by simp) (Nat.le_refl _)).trans hx15).trans hx16).then' hp18.only (by simp) (Nat.le_refl _))) rfl) rfl rfl rfl ?_
    refine L_yld (Y_ldbox (us := [.int .i64 1, str [121], .int .i64 (m1 % 4096), str [], .slice xb nb' cb, .int .i64 2]) Tryd.underlying30 rfl (show _ = some 6 by kernel_rfl) rfl hk19 rfl) rfl rfl rfl ?_
    refine L_mks (M_litr (S := nodS) (l := ([⟨(1 : Int), [120], m0 % 4096, [], .slice xa na ca, a, (1 : Int)⟩, ⟨(1 : Int), [121], m1 % 4096, [], .slice xb nb' cb, b, (2 : Int)⟩] : List Nod)) (cells := [.int .i64 1, str [120], .int .i64 (m0 % 4096), str [], .slice xa na ca, .int .i64 1, .int .i64 1, str [121], .int .i64 (m1 % 4096), str [], .slice xb nb' cb, .int .i64 2]) (pv := [(0, .agg #[.int .i64 1, str [120], .int .i64 (m0 % 4096), str [], .slice xa na ca, .int .i64 1]), (1, .agg #[.int .i64 1, str [121], .int .i64 (m1 % 4096), str [], .slice xb nb' cb, .int .i64 2])]) (E := 30) (evp (is := [0, 1]) (os := [.tmp 56, .tmp 57]) (vs := [.agg #[.int .i64 1, str [120], .int .i64 (m0 % 4096), str [], .slice xa na ca, .int .i64 1], .agg #[.int .i64 1, str [121], .int .i64 (m1 % 4096), str [], .slice xb nb' cb, .int .i64 2]]) rfl rfl) rfl rfl (fun _ => by kernel_rfl) (by simp only [List.mem_cons, List.not_mem_nil, or_false, forall_eq_or_imp, forall_eq]; exact ⟨(ha.ext (((((((hn1.ext.trans hn5.ext).then' hp7.only (by simp) hn1.ext.size).trans hn9.ext).then' hp11.only (by simp) (Nat.le_trans (Nat.le_trans hn1.ext.size hn5.ext.size) hp7.only.size)).trans hx15).trans hx16).then' hp18.only (by simp) (Nat.le_trans (Nat.le_trans hn1.ext.size hn5.ext.size) hp7.only.size))), (hb.ext (((((((hn1.ext.trans hn5.ext).then' hp7.only (by simp) hn1.ext.size).trans hn9.ext).then' hp11.only (by simp) (Nat.le_trans (Nat.le_trans hn1.ext.size hn5.ext.size) hp7.only.size)).trans hx15).trans hx16).then' hp18.only (by simp) (Nat.le_trans (Nat.le_trans hn1.ext.size hn5.ext.size) hp7.only.size)))⟩)) rfl rfl rfl ?_
    rintro v20 h10 ⟨ho21, hx22⟩
    refine L_call (E_call (by kernel_rfl) rfl) (tree_Check _ (hK.ext ((((((((hn1.ext.trans hn5.ext).then' hp7.only (by simp) hn1.ext.size).trans hn9.ext).then' hp11.only (by simp) (Nat.le_trans (Nat.le_trans hn1.ext.size hn5.ext.size) hp7.only.size)).trans hx15).trans hx16).then' hp18.only (by simp) (Nat.le_trans (Nat.le_trans hn1.ext.size hn5.ext.size) hp7.only.size)).trans hx22)) (hE.ext ((((((((hn1.ext.trans hn5.ext).then' hp7.only (by simp) hn1.ext.size).trans hn9.ext).then' hp11.only (by simp) (Nat.le_trans (Nat.le_trans hn1.ext.size hn5.ext.size) hp7.only.size)).trans hx15).trans hx16).then' hp18.only (by simp) (Nat.le_trans (Nat.le_trans hn1.ext.size hn5.ext.size) hp7.only.size)).trans hx22)) v20 ([⟨(1 : Int), [120], m0 % 4096, [], .slice xa na ca, a, (1 : Int)⟩, ⟨(1 : Int), [121], m1 % 4096, [], .slice xb nb' cb, b, (2 : Int)⟩] : List Nod) ho21.rows (show 2 ≤ 140737488355328 by decide) (by intro x hx; simp only [List.mem_cons, List.not_mem_nil, or_false] at hx; rcases hx with rfl | rfl <;> exact ⟨by show 1 ≤ _; decide, by show 0 ≤ _; decide, by first | exact hal | exact hbl⟩)) rfl rfl rfl ?_
    rintro _ h11 ⟨rfl, hx23⟩
    refine L_yld (Y_move rfl) rfl rfl rfl ?_
    refine L_yld (Y_extract (v := .int .i64 (tpos ([⟨(1 : Int), [120], m0 % 4096, [], .slice xa na ca, a, (1 : Int)⟩, ⟨(1 : Int), [121], m1 % 4096, [], .slice xb nb' cb, b, (2 : Int)⟩] : List Nod))) rfl rfl) rfl rfl rfl ?_
    refine L_yld (Y_extract (v := .int .i64 (terr ([⟨(1 : Int), [120], m0 % 4096, [], .slice xa na ca, a, (1 : Int)⟩, ⟨(1 : Int), [121], m1 % 4096, [], .slice xb nb' cb, b, (2 : Int)⟩] : List Nod))) rfl rfl) rfl rfl rfl ?_
    refine L_yld (Y_assign rfl) rfl rfl rfl ?_
    refine L_yld (Y_assign rfl) rfl rfl rfl ?_
    refine L_nil ?_
    refine X_then ?_
    refine W_sub _ (.cons (i := 13) rfl (.cons (i := 12) rfl (.cons (i := 11) rfl (.cons (i := 10) rfl (.cons (i := 9) rfl (.cons (i := 6) rfl (.nil _))))))) ?_
    have hr2 := two_res2 (v := .slice xa na ca) (v' := .slice xb nb' cb) hq0 hq1 hla hlb
    refine W_seq ?_
    refine W_region ?_
    refine L_call (E_call (by kernel_rfl) rfl) (law13_alive _ (hK.ext (((((((((hn1.ext.trans hn5.ext).then' hp7.only (by simp) hn1.ext.size).trans hn9.ext).then' hp11.only (by simp) (Nat.le_trans (Nat.le_trans hn1.ext.size hn5.ext.size) hp7.only.size)).trans hx15).trans hx16).then' hp18.only (by simp) (Nat.le_trans (Nat.le_trans hn1.ext.size hn5.ext.size) hp7.only.size)).trans hx22).trans hx23)) (hE.ext (((((((((hn1.ext.trans hn5.ext).then' hp7.only (by simp) hn1.ext.size).trans hn9.ext).then' hp11.only (by simp) (Nat.le_trans (Nat.le_trans hn1.ext.size hn5.ext.size) hp7.only.size)).trans hx15).trans hx16).then' hp18.only (by simp) (Nat.le_trans (Nat.le_trans hn1.ext.size hn5.ext.size) hp7.only.size)).trans hx22).trans hx23))) rfl rfl rfl ?_
    rintro _ h12 ⟨rfl, hx24⟩
    refine L_yld (Y_move rfl) rfl rfl rfl ?_
    refine L_yld (Y_move rfl) rfl rfl rfl ?_
    refine L_yld (Y_eql rfl rfl) rfl rfl rfl ?_
    refine L_yld (Y_pick_t rfl rfl) rfl rfl rfl ?_
    refine L_yld (Y_move rfl) rfl rfl rfl ?_
    refine L_known (d := 67) true rfl (by exact decide_eq_true (by exact hr2.2)) ?_
    refine L_yld (Y_move rfl) rfl rfl rfl ?_
    refine L_yld (Y_eql rfl rfl) rfl rfl rfl ?_
    refine L_yld (Y_pick_t rfl rfl) rfl rfl rfl ?_
    refine L_yld (Y_move rfl) rfl rfl rfl ?_
    refine L_known (d := 71) true rfl (by exact decide_eq_true (by exact hr2.1)) ?_
    refine L_yld (Y_move rfl) rfl rfl rfl ?_
    refine L_yld (Y_eql rfl rfl) rfl rfl rfl ?_
    refine L_yld (Y_move rfl) rfl rfl rfl ?_
    refine L_yld (Y_beql Tryd.underlying4 rfl rfl) rfl rfl rfl ?_
    refine L_yld (Y_pick_t rfl rfl) rfl rfl rfl ?_
    refine L_yld (Y_move rfl) rfl rfl rfl ?_
    refine L_known (d := 77) true rfl (by by_cases hag : m0 % 4096 = m1 % 4096 ∧ a = b <;> rw [beq_iff_eq, decide_eq_decide]; exact ⟨fun _ => hag, fun _ => (two_yes hq0 hq1 hla hlb hag).2⟩; exact ⟨fun h9 => absurd ((two_no (v := .slice xa na ca) (v' := .slice xb nb' cb) hq0 hq1 hla hlb hag).2.symm.trans h9) (by decide), fun h9 => absurd h9 hag⟩) ?_
    refine L_yld (Y_move rfl) rfl rfl rfl ?_
    refine L_yld (Y_move rfl) rfl rfl rfl ?_
    refine L_splitd (d := 79) rfl (fun ag => ?_) (fun ag => ?_)
    · refine L_yld (Y_move rfl) rfl rfl rfl ?_
      refine L_yld (Y_eql rfl rfl) rfl rfl rfl ?_
      refine L_yld (Y_pick_t rfl rfl) rfl rfl rfl ?_
      refine L_yld (Y_move rfl) rfl rfl rfl ?_
      refine L_known (d := 83) true rfl (by exact decide_eq_true (by exact (two_yes hq0 hq1 hla hlb ag).1)) ?_
      refine L_skip rfl rfl rfl ?_
      refine L_skip rfl rfl rfl ?_
      refine L_skip rfl rfl rfl ?_
      refine L_skip rfl rfl rfl ?_
      refine L_skip rfl rfl rfl ?_
      refine L_skip rfl rfl rfl ?_
      refine L_skip rfl rfl rfl ?_
      refine L_skip rfl rfl rfl ?_
      refine L_skip rfl rfl rfl ?_
      refine L_skip rfl rfl rfl ?_
      refine L_yld (Y_pick_t rfl rfl) rfl rfl rfl ?_
      refine L_yld (Y_pick_t rfl rfl) rfl rfl rfl ?_
      refine L_yld (Y_assign rfl) rfl rfl rfl ?_
      refine L_nil ?_
      refine X_then ?_
      refine W_sub _ (.cons (i := 6) rfl (.nil _)) ?_
      refine W_ret ?_
      refine X_ret1 rfl rfl ?_
      exact ⟨rfl, ((((((((((hn1.ext.trans hn5.ext).then' hp7.only (by simp) hn1.ext.size).trans hn9.ext).then' hp11.only (by simp) (Nat.le_trans (Nat.le_trans hn1.ext.size hn5.ext.size) hp7.only.size)).trans hx15).trans hx16).then' hp18.only (by simp) (Nat.le_trans (Nat.le_trans hn1.ext.size hn5.ext.size) hp7.only.size)).trans hx22).trans hx23).trans hx24)⟩
    · refine L_skip rfl rfl rfl ?_
      refine L_skip rfl rfl rfl ?_
      refine L_yld (Y_pick_f rfl rfl) rfl rfl rfl ?_
      refine L_yld (Y_move rfl) rfl rfl rfl ?_
      refine L_yld (Y_move rfl) rfl rfl rfl ?_
      refine L_yld (Y_notd rfl) rfl rfl rfl ?_
      refine L_yld (Y_move rfl) rfl rfl rfl ?_
      refine L_known (d := 86) true rfl (by exact decide_eq_true (by exact ag)) ?_
      refine L_yld (Y_move rfl) rfl rfl rfl ?_
      refine L_yld (Y_eql rfl rfl) rfl rfl rfl ?_
      refine L_yld (Y_pick_t rfl rfl) rfl rfl rfl ?_
      refine L_yld (Y_move rfl) rfl rfl rfl ?_
      refine L_known (d := 90) true rfl (by exact decide_eq_true (by exact (two_no hq0 hq1 hla hlb ag).1)) ?_
      refine L_yld (Y_move rfl) rfl rfl rfl ?_
      refine L_yld (Y_eql rfl rfl) rfl rfl rfl ?_
      refine L_yld (Y_pick_t rfl rfl) rfl rfl rfl ?_
      refine L_yld (Y_pick_f rfl rfl) rfl rfl rfl ?_
      refine L_yld (Y_pick_t rfl rfl) rfl rfl rfl ?_
      refine L_yld (Y_assign rfl) rfl rfl rfl ?_
      refine L_nil ?_
      refine X_then ?_
      refine W_sub _ (.cons (i := 6) rfl (.nil _)) ?_
      refine W_ret ?_
      refine X_ret1 rfl rfl ?_
      exact ⟨congrArg Value.bool (decide_eq_true (two_no hq0 hq1 hla hlb ag).2), ((((((((((hn1.ext.trans hn5.ext).then' hp7.only (by simp) hn1.ext.size).trans hn9.ext).then' hp11.only (by simp) (Nat.le_trans (Nat.le_trans hn1.ext.size hn5.ext.size) hp7.only.size)).trans hx15).trans hx16).then' hp18.only (by simp) (Nat.le_trans (Nat.le_trans hn1.ext.size hn5.ext.size) hp7.only.size)).trans hx22).trans hx23).trans hx24)⟩
theorem slice_form {h : Heap} {v : Value} {l : List UInt8} (b : Bytes h v l) : ∃ x n c, v = .slice x n c := by
  obtain ⟨⟨a0, cap, rfl, _⟩, _⟩ := b; exact ⟨_, _, _, rfl⟩
theorem treeClassesMustAgree (h : Heap) (hK : GlbK h) (hE : GlbE h) (m0 : Int) (m1 : Int) (va : Value) (a : List UInt8) (ha : Bytes h va a) (vb : Value) (b : List UInt8) (hb : Bytes h vb b)
    (hm0 : 0 ≤ m0 ∧ m0 ≤ 65535) (hm1 : 0 ≤ m1 ∧ m1 ≤ 65535) (hal : a.length ≤ 140737488355328) (hbl : b.length ≤ 140737488355328) :
    Cal Tryd.prog 4 #[.agg #[.int .u16 m0, .int .u16 m1], va, vb] h (fun v h' => v = .bool true ∧ Ext h h') := by
  obtain ⟨xa, na, ca, rfl⟩ := slice_form ha
  obtain ⟨xb, nb', cb, rfl⟩ := slice_form hb
  exact treeClassesMustAgree' h hK hE m0 m1 xa na ca a ha xb nb' cb b hb hm0 hm1 hal hbl
end Go.Xp
