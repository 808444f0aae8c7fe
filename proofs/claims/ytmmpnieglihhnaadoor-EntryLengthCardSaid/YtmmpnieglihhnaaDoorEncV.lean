/- Layer 12 (entry): the chapter's example, and the law on the length. -/
import Derived.Test.YtmmpnieglihhnaaDoorEncP
import Derived.Test.YtmmpnieglihhnaaDoorRepeat
set_option linter.unusedSimpArgs false
set_option linter.unusedVariables false
set_option linter.unusedSectionVars false
namespace Go.Xp
open Go.Proofs

theorem rone_le {r : Rec} (h : rrest r.key r.val ≤ 1152921504606846976) : (rone r).length ≤ rrest r.key r.val + 25 ∧ 1 ≤ (rone r).length := by
  have h2 := pdig_ok h
  have h4 : rrest r.key r.val = r.key.length + r.val.length + 3 := rfl
  have h3 : psz (rrest r.key r.val) = rrest r.key r.val + pdig (rrest r.key r.val) := rfl
  unfold rone
  simp only [List.length_append, List.length_cons, List.length_nil, Lib.decDigits_length]
  rw [h3, h2.2.2.1]; omega
theorem e1_check : fcheck 0 [97] 0 [] 0 = 0 := by decide +kernel
theorem e1_recs : fR (fcheck 0 [97] 0 [] 0) [97] [] 0 = [] := by
  have hs : sok [97] = true := by decide +kernel
  rw [fR, if_pos e1_check]; simp [frecs, hs]
theorem e2_check : fcheck 1 (Lib.repeatL [110] 300) 0 [] 0 = 0 := by decide +kernel
theorem e2_sok : sok (Lib.repeatL [110] 300) = false := by decide +kernel
theorem e2_len : (Lib.repeatL [110] 300).length = 300 := by rw [repeatL_one, List.length_replicate]
theorem rrest_eq (k v : List UInt8) : rrest k v = k.length + v.length + 3 := rfl
theorem e2_recs : fR (fcheck 1 (Lib.repeatL [110] 300) 0 [] 0) (Lib.repeatL [110] 300) [] 0 = [⟨[112, 97, 116, 104], Lib.repeatL [110] 300⟩] := by
  rw [fR, if_pos e2_check]
  unfold frecs
  rw [if_neg (by simp), e2_sok, if_neg (by decide), if_neg (by decide)]; rfl
theorem e2_size : (eenc 1 (Lib.repeatL [110] 300) 0 [] 0).length = 1536 := by
  have hne : fR (fcheck 1 (Lib.repeatL [110] 300) 0 [] 0) (Lib.repeatL [110] 300) [] 0 ≠ [] := by rw [e2_recs]; simp
  have hr := rlerr_plan e2_check
  have hL := eenc_len e2_check
  rw [if_neg hne] at hL
  have hR : (rfmt (fR (fcheck 1 (Lib.repeatL [110] 300) 0 [] 0) (Lib.repeatL [110] 300) [] 0)).length ≤ 400 ∧ 1 ≤ (rfmt (fR (fcheck 1 (Lib.repeatL [110] 300) 0 [] 0) (Lib.repeatL [110] 300) [] 0)).length := by
    rw [e2_recs] at hr ⊢
    unfold rfmt
    rw [if_pos hr]
    have hq : rrest [112, 97, 116, 104] (Lib.repeatL [110] 300) = 307 := by rw [rrest_eq, e2_len]; rfl
    have := rone_le (r := ⟨[112, 97, 116, 104], Lib.repeatL [110] 300⟩) (by show rrest [112, 97, 116, 104] (Lib.repeatL [110] 300) ≤ _; rw [hq]; decide)
    change (rone ⟨[112, 97, 116, 104], Lib.repeatL [110] 300⟩).length ≤ rrest [112, 97, 116, 104] (Lib.repeatL [110] 300) + 25 ∧ _ at this
    rw [hq] at this
    simp only [List.flatMap_cons, List.flatMap_nil, List.append_nil]
    omega
  rw [hL]
  generalize (rfmt (fR (fcheck 1 (Lib.repeatL [110] 300) 0 [] 0) (Lib.repeatL [110] 300) [] 0)).length = R at hR ⊢
  unfold padn; omega
set_option maxRecDepth 100000 in
theorem law12_alive (h : Heap) (hG : Glb h) (hK : GlbK h) (hN : GlbN h) (hE : GlbE h) (hT : GlbT h) : Cal Tryd.prog 9 #[] h (fun v h' => v = .bool true ∧ Ext h h') := by
  refine Cal_enter (args := []) Tryd.func9 rfl rfl rfl (fun σ => ?_)
  refine W_seq ?_
  refine W_region ?_
  refine L_yld (Y_assign rfl) rfl rfl rfl ?_
  refine L_nil ?_
  refine X_then ?_
  refine W_seq ?_
  refine W_region ?_
  refine L_yld (Y_build (v := .agg #[.int .i64 0, str [97], .int .i64 0, str [], .int .i64 0]) (pv := [(0, .int .i64 0), (1, str [97])]) (evp (is := [0, 1]) (os := [.const (.int .i64 0), .const (str [97])]) (vs := [.int .i64 0, str [97]]) rfl rfl) (fun _ => by kernel_rfl)) rfl rfl rfl ?_
  refine L_call (E_call (by kernel_rfl) rfl) (entry_Encode _ hG hK hN hE hT (0 : Int) [97] (0 : Int) [] (0 : Int) (by decide) (by decide) (by decide)) rfl rfl rfl ?_
  rintro _ h1 ⟨s01, rfl, hr02, hx3⟩
  refine L_yld (Y_move rfl) rfl rfl rfl ?_
  refine L_yld (Y_extract (v := s01) rfl rfl) rfl rfl rfl ?_
  refine L_yld (Y_extract (v := .int .i64 (fcheck (0 : Int) [97] (0 : Int) [] (0 : Int))) rfl rfl) rfl rfl rfl ?_
  refine L_yld (Y_assign rfl) rfl rfl rfl ?_
  refine L_yld (Y_assign rfl) rfl rfl rfl ?_
  refine L_nil ?_
  refine X_then ?_
  refine W_sub _ (.cons (i := 2) rfl (.cons (i := 1) rfl (.cons (i := 0) rfl (.nil _)))) ?_
  refine W_seq ?_
  refine W_region ?_
  refine L_call (E_call (by kernel_rfl) rfl) (strings_Repeat _ [110] (300 : Int) (by decide) (by decide)) rfl rfl rfl ?_
  rintro _ h2 ⟨rfl, hx4⟩
  refine L_yld (Y_build (v := .agg #[.int .i64 1, str (Lib.repeatL [110] (300 : Int).toNat), .int .i64 0, str [], .int .i64 0]) (pv := [(0, .int .i64 1), (1, str (Lib.repeatL [110] (300 : Int).toNat))]) (evp (is := [0, 1]) (os := [.const (.int .i64 1), .tmp 11]) (vs := [.int .i64 1, str (Lib.repeatL [110] (300 : Int).toNat)]) rfl rfl) (fun _ => by kernel_rfl)) rfl rfl rfl ?_
  refine L_call (E_call (by kernel_rfl) rfl) (entry_Encode _ (hG.ext (hx3.trans hx4)) (hK.ext (hx3.trans hx4)) (hN.ext (hx3.trans hx4)) (hE.ext (hx3.trans hx4)) (hT.ext (hx3.trans hx4)) (1 : Int) (Lib.repeatL [110] (300 : Int).toNat) (0 : Int) [] (0 : Int) (by show (Lib.repeatL [110] 300).length ≤ _; rw [e2_len]; decide) (by decide) (by decide)) rfl rfl rfl ?_
  rintro _ h3 ⟨s05, rfl, hr06, hx7⟩
  refine L_yld (Y_move rfl) rfl rfl rfl ?_
  refine L_yld (Y_extract (v := s05) rfl rfl) rfl rfl rfl ?_
  refine L_yld (Y_extract (v := .int .i64 (fcheck (1 : Int) (Lib.repeatL [110] (300 : Int).toNat) (0 : Int) [] (0 : Int))) rfl rfl) rfl rfl rfl ?_
  refine L_yld (Y_assign rfl) rfl rfl rfl ?_
  refine L_yld (Y_assign rfl) rfl rfl rfl ?_
  refine L_nil ?_
  refine X_then ?_
  refine W_sub _ (.cons (i := 4) rfl (.cons (i := 3) rfl (.cons (i := 2) rfl (.cons (i := 1) rfl (.cons (i := 0) rfl (.nil _)))))) ?_
  refine W_seq ?_
  refine W_region ?_
  refine L_yld (Y_move rfl) rfl rfl rfl ?_
  refine L_yld (Y_eql rfl rfl) rfl rfl rfl ?_
  refine L_yld (Y_move rfl) rfl rfl rfl ?_
  refine L_known (d := 18) true rfl (by exact decide_eq_true (by exact e1_check)) ?_
  refine L_yld (Y_move rfl) rfl rfl rfl ?_
  refine L_yld (Y_len Tryd.underlying24 rfl (hr02.ext (hx4.trans hx7))) rfl rfl rfl ?_
  refine L_yld (Y_eql rfl rfl) rfl rfl rfl ?_
  refine L_yld (Y_pick_t rfl rfl) rfl rfl rfl ?_
  refine L_yld (Y_move rfl) rfl rfl rfl ?_
  refine L_known (d := 23) true rfl (by exact decide_eq_true (by rw [eenc_short e1_check e1_recs]; rfl)) ?_
  refine L_yld (Y_move rfl) rfl rfl rfl ?_
  refine L_yld (Y_eql rfl rfl) rfl rfl rfl ?_
  refine L_yld (Y_pick_t rfl rfl) rfl rfl rfl ?_
  refine L_yld (Y_move rfl) rfl rfl rfl ?_
  refine L_known (d := 27) true rfl (by exact decide_eq_true (by exact e2_check)) ?_
  refine L_yld (Y_move rfl) rfl rfl rfl ?_
  refine L_yld (Y_len Tryd.underlying24 rfl hr06) rfl rfl rfl ?_
  refine L_yld (Y_eql rfl rfl) rfl rfl rfl ?_
  refine L_yld (Y_pick_t rfl rfl) rfl rfl rfl ?_
  refine L_yld (Y_assign rfl) rfl rfl rfl ?_
  refine L_nil ?_
  refine X_then ?_
  refine W_sub _ (.cons (i := 0) rfl (.nil _)) ?_
  refine W_ret ?_
  refine X_ret1 rfl rfl ?_
  exact ⟨congrArg Value.bool (decide_eq_true (by show ((eenc 1 (Lib.repeatL [110] 300) 0 [] 0).length : Int) = 1536; rw [e2_size]; rfl)), ((hx3.trans hx4).trans hx7)⟩
set_option maxRecDepth 100000 in
theorem entryLength (h : Heap) (hG : Glb h) (hK : GlbK h) (hN : GlbN h) (hE : GlbE h) (hT : GlbT h) (k : Int) (p : List UInt8) (m : Int) (tg : List UInt8) (z : Int) (hk : -9223372036854775808 ≤ k ∧ k ≤ 9223372036854775807) (hp : p.length ≤ 140737488355328) (hm : -9223372036854775808 ≤ m ∧ m ≤ 9223372036854775807) (ht : tg.length ≤ 140737488355328) (hz : -9223372036854775808 ≤ z ∧ z ≤ 9223372036854775807) : Cal Tryd.prog 3 #[.agg #[.int .i64 (k), str p, .int .i64 (m), str tg, .int .i64 (z)]] h (fun v h' => v = .bool true ∧ Ext h h') := by
  refine Cal_enter (args := [.agg #[.int .i64 (k), str p, .int .i64 (m), str tg, .int .i64 (z)]]) Tryd.func3 rfl rfl rfl (fun σ => ?_)
  refine W_seq ?_
  refine W_region ?_
  refine L_mks (M_box rfl) rfl rfl rfl ?_
  rintro _ h1 ⟨rfl, hn1⟩
  have hk2 : Blk h1 h.size [.int .i64 (k), str p, .int .i64 (m), str tg, .int .i64 (z)] := hn1.blk
  refine L_yld (Y_assign rfl) rfl rfl rfl ?_
  refine L_nil ?_
  refine X_then ?_
  refine W_sub _ (.cons (i := 2) rfl (.cons (i := 1) rfl (.nil _))) ?_
  refine W_seq ?_
  refine W_region ?_
  refine L_yld (Y_ldbox (us := [.int .i64 (k), str p, .int .i64 (m), str tg, .int .i64 (z)]) Tryd.underlying23 rfl (show _ = some 5 by kernel_rfl) rfl hk2 rfl) rfl rfl rfl ?_
  refine L_call (E_call (by kernel_rfl) rfl) (entry_Encode _ (hG.ext hn1.ext) (hK.ext hn1.ext) (hN.ext hn1.ext) (hE.ext hn1.ext) (hT.ext hn1.ext) k p m tg z (by first | omega | rfl | (simp <;> omega)) (by first | omega | rfl | (simp <;> omega)) (by first | omega | rfl | (simp <;> omega))) rfl rfl rfl ?_
  rintro _ h2 ⟨s03, rfl, hr04, hx5⟩
  refine L_yld (Y_move rfl) rfl rfl rfl ?_
  refine L_yld (Y_extract (v := s03) rfl rfl) rfl rfl rfl ?_
  refine L_yld (Y_extract (v := .int .i64 (fcheck k p m tg z)) rfl rfl) rfl rfl rfl ?_
  refine L_yld (Y_assign rfl) rfl rfl rfl ?_
  refine L_yld (Y_assign rfl) rfl rfl rfl ?_
  refine L_nil ?_
  refine X_then ?_
  refine W_sub _ (.cons (i := 4) rfl (.cons (i := 3) rfl (.cons (i := 2) rfl (.cons (i := 1) rfl (.nil _))))) ?_
  refine W_seq ?_
  refine W_cut (S := Unit) (fun _ => [(19, .bool (decide ((0 < (if 70000 < p.length + tg.length then 1 else 0 : Int)) ∨ (¬ (fcheck k p m tg z) = 0)))), (4, .int .i64 (fcheck k p m tg z)), (3, s03), (2, .bool false), (1, .pointer (some ⟨h.size, 0, none⟩))]) (fun _ h' => Ext h2 h') ?_ ?_
  · refine W_region ?_
    refine L_yld (Y_ldbox (us := [.int .i64 (k), str p, .int .i64 (m), str tg, .int .i64 (z)]) Tryd.underlying23 rfl (show _ = some 5 by kernel_rfl) rfl (hk2.ext hx5) rfl) rfl rfl rfl ?_
    refine L_call (E_call (by kernel_rfl) rfl) (law10_TooLarge _ k p m tg z (by first | omega | rfl | (simp <;> omega)) (by first | omega | rfl | (simp <;> omega))) rfl rfl rfl ?_
    rintro _ h3 ⟨rfl, hx6⟩
    refine L_yld (Y_gtr rfl rfl) rfl rfl rfl ?_
    refine L_yld (Y_move rfl) rfl rfl rfl ?_
    refine L_splitd (d := 16) rfl (fun c7 => ?_) (fun c7 => ?_)
    · refine L_skip rfl rfl rfl ?_
      refine L_skip rfl rfl rfl ?_
      refine L_yld (Y_pick_t rfl rfl) rfl rfl rfl ?_
      refine L_nil ?_
      exact X_cut () (.cons (i := 19) (lkb rfl (by simp only [eq_true c7, true_and, and_true, false_and, and_false, true_or, or_true, false_or, or_false, not_true_eq_false, not_false_eq_true, decide_true, decide_false, Bool.true_eq_false, Bool.false_eq_true, eq_self, Bool.decide_eq_true])) (.cons (i := 4) rfl (.cons (i := 3) rfl (.cons (i := 2) rfl (.cons (i := 1) rfl (.nil _)))))) hx6
    · refine L_yld (Y_move rfl) rfl rfl rfl ?_
      refine L_yld (Y_neq rfl rfl) rfl rfl rfl ?_
      refine L_yld (Y_pick_f rfl rfl) rfl rfl rfl ?_
      refine L_nil ?_
      exact X_cut () (.cons (i := 19) (lkb rfl (by simp only [eq_false c7, true_and, and_true, false_and, and_false, true_or, or_true, false_or, or_false, not_true_eq_false, not_false_eq_true, decide_true, decide_false, Bool.true_eq_false, Bool.false_eq_true, eq_self, Bool.decide_eq_true])) (.cons (i := 4) rfl (.cons (i := 3) rfl (.cons (i := 2) rfl (.cons (i := 1) rfl (.nil _)))))) hx6
  rintro _ h4 hx8
  show W _ _ _ _ _ [(19, .bool (decide ((0 < (if 70000 < p.length + tg.length then 1 else 0 : Int)) ∨ (¬ (fcheck k p m tg z) = 0)))), (4, .int .i64 (fcheck k p m tg z)), (3, s03), (2, .bool false), (1, .pointer (some ⟨h.size, 0, none⟩))] _
  refine W_splitd rfl (fun g => ?_) (fun g => ?_)
  · refine W_seq ?_
    refine W_region ?_
    refine L_call (E_call (by kernel_rfl) rfl) (law12_alive _ (hG.ext ((hn1.ext.trans hx5).trans hx8)) (hK.ext ((hn1.ext.trans hx5).trans hx8)) (hN.ext ((hn1.ext.trans hx5).trans hx8)) (hE.ext ((hn1.ext.trans hx5).trans hx8)) (hT.ext ((hn1.ext.trans hx5).trans hx8))) rfl rfl rfl ?_
    rintro _ h5 ⟨rfl, hx9⟩
    refine L_yld (Y_move rfl) rfl rfl rfl ?_
    refine L_yld (Y_move rfl) rfl rfl rfl ?_
    refine L_yld (Y_eql rfl rfl) rfl rfl rfl ?_
    refine L_yld (Y_move rfl) rfl rfl rfl ?_
    refine L_splitd (d := 24) rfl (fun e => ?_) (fun e => ?_)
    · refine L_skip rfl rfl rfl ?_
      refine L_skip rfl rfl rfl ?_
      refine L_skip rfl rfl rfl ?_
      refine L_skip rfl rfl rfl ?_
      refine L_skip rfl rfl rfl ?_
      refine L_skip rfl rfl rfl ?_
      refine L_skip rfl rfl rfl ?_
      refine L_skip rfl rfl rfl ?_
      refine L_skip rfl rfl rfl ?_
      refine L_yld (Y_pick_t rfl rfl) rfl rfl rfl ?_
      refine L_yld (Y_pick_t rfl rfl) rfl rfl rfl ?_
      refine L_yld (Y_assign rfl) rfl rfl rfl ?_
      refine L_nil ?_
      refine X_then ?_
      refine W_sub _ (.cons (i := 2) rfl (.cons (i := 3) rfl (.cons (i := 1) rfl (.nil _)))) ?_
      refine W_ret ?_
      refine X_then_ret ?_
      refine X_ret1 rfl rfl ?_
      exact ⟨rfl, (((hn1.ext.trans hx5).trans hx8).trans hx9)⟩
    · refine L_yld (Y_move rfl) rfl rfl rfl ?_
      refine L_yld (Y_len Tryd.underlying24 rfl (hr04.ext (hx8.trans hx9))) rfl rfl rfl ?_
      refine L_yld (Y_eql rfl rfl) rfl rfl rfl ?_
      refine L_yld (Y_move rfl) rfl rfl rfl ?_
      refine L_known (d := 28) true rfl (by exact decide_eq_true (by rw [eenc_none e]; rfl)) ?_
      refine L_yld (Y_move rfl) rfl rfl rfl ?_
      refine L_yld (Y_ldbox (us := [.int .i64 (k), str p, .int .i64 (m), str tg, .int .i64 (z)]) Tryd.underlying23 rfl (show _ = some 5 by kernel_rfl) rfl (hk2.ext ((hx5.trans hx8).trans hx9)) rfl) rfl rfl rfl ?_
      refine L_call (E_call (by kernel_rfl) rfl) (fit_Check _ (hK.ext (((hn1.ext.trans hx5).trans hx8).trans hx9)) (hE.ext (((hn1.ext.trans hx5).trans hx8).trans hx9)) k p m tg z (by first | omega | rfl | (simp <;> omega)) (by first | omega | rfl | (simp <;> omega))) rfl rfl rfl ?_
      rintro _ h6 ⟨rfl, hx10⟩
      refine L_yld (Y_eql rfl rfl) rfl rfl rfl ?_
      refine L_yld (Y_pick_t rfl rfl) rfl rfl rfl ?_
      refine L_yld (Y_pick_f rfl rfl) rfl rfl rfl ?_
      refine L_yld (Y_pick_t rfl rfl) rfl rfl rfl ?_
      refine L_yld (Y_assign rfl) rfl rfl rfl ?_
      refine L_nil ?_
      refine X_then ?_
      refine W_sub _ (.cons (i := 2) rfl (.cons (i := 3) rfl (.cons (i := 1) rfl (.nil _)))) ?_
      refine W_ret ?_
      refine X_then_ret ?_
      refine X_ret1 rfl rfl ?_
      exact ⟨congrArg Value.bool (decide_eq_true rfl), ((((hn1.ext.trans hx5).trans hx8).trans hx9).trans hx10)⟩
  · refine W_skip ?_
    refine X_then ?_
    refine W_sub _ (.cons (i := 3) rfl (.cons (i := 2) rfl (.cons (i := 1) rfl (.nil _)))) ?_
    have e0 : fcheck k p m tg z = 0 := Classical.not_not.1 (fun e => g (.inr e))
    refine W_seq ?_
    refine W_region ?_
    refine L_yld (Y_ldbox (us := [.int .i64 (k), str p, .int .i64 (m), str tg, .int .i64 (z)]) Tryd.underlying23 rfl (show _ = some 5 by kernel_rfl) rfl (hk2.ext (hx5.trans hx8)) rfl) rfl rfl rfl ?_
    refine L_call (E_call (by kernel_rfl) rfl) (fit_Plan _ (hK.ext ((hn1.ext.trans hx5).trans hx8)) (hN.ext ((hn1.ext.trans hx5).trans hx8)) (hE.ext ((hn1.ext.trans hx5).trans hx8)) (hT.ext ((hn1.ext.trans hx5).trans hx8)) k p m tg z (by first | omega | rfl | (simp <;> omega)) (by first | omega | rfl | (simp <;> omega)) (by first | omega | rfl | (simp <;> omega))) rfl rfl rfl ?_
    rintro _ h7 ⟨s111, rfl, hr112, hx13⟩
    refine L_yld (Y_move rfl) rfl rfl rfl ?_
    refine L_yld (Y_extract (v := .agg #[.int .u8 (fT (fcheck k p m tg z) k), str (fN (fcheck k p m tg z) p), str (fP (fcheck k p m tg z) p), str (fL (fcheck k p m tg z) tg), .int .i64 (fM (fcheck k p m tg z) m), .int .i64 (fZ (fcheck k p m tg z) z)]) rfl rfl) rfl rfl rfl ?_
    refine L_yld (Y_extract (v := s111) rfl rfl) rfl rfl rfl ?_
    refine L_yld (Y_extract (v := .int .i64 (fcheck k p m tg z)) rfl rfl) rfl rfl rfl ?_
    refine L_mks (M_alloc (u := .agg #[.int .u8 0, str [], str [], str [], .int .i64 0, .int .i64 0]) (by kernel_rfl)) rfl rfl rfl ?_
    rintro _ h8 ⟨rfl, hn14⟩
    have hk15 : Blk h8 h7.size [.int .u8 0, str [], str [], str [], .int .i64 0, .int .i64 0] := hn14.blk
    refine L_dos (D_store (us := [.int .u8 (fT (fcheck k p m tg z) k), str (fN (fcheck k p m tg z) p), str (fP (fcheck k p m tg z) p), str (fL (fcheck k p m tg z) tg), .int .i64 (fM (fcheck k p m tg z) m), .int .i64 (fZ (fcheck k p m tg z) z)]) (show _ = some 6 by kernel_rfl) rfl rfl rfl (by simp [Value.oneCell']) hk15 (by simp)) rfl rfl ?_
    rintro h9 hp16
    have hk17 : Blk h9 h7.size [.int .u8 (fT (fcheck k p m tg z) k), str (fN (fcheck k p m tg z) p), str (fP (fcheck k p m tg z) p), str (fL (fcheck k p m tg z) tg), .int .i64 (fM (fcheck k p m tg z) m), .int .i64 (fZ (fcheck k p m tg z) z)] := hp16.blk
    refine L_yld (Y_assign rfl) rfl rfl rfl ?_
    refine L_yld (Y_assign rfl) rfl rfl rfl ?_
    refine L_nil ?_
    refine X_then ?_
    refine W_sub _ (.cons (i := 6) rfl (.cons (i := 3) rfl (.cons (i := 2) rfl (.nil _)))) ?_
    refine W_seq ?_
    refine W_seq ?_
    refine W_region ?_
    refine L_yld (Y_move rfl) rfl rfl rfl ?_
    refine L_yld (Y_lenr Tryd.underlying33 rfl (hr112.rows.ext (hn14.ext.then' hp16.only (by simp) (Nat.le_refl _)))) rfl rfl rfl ?_
    refine L_yld (Y_eql rfl rfl) rfl rfl rfl ?_
    refine L_nil ?_
    refine X_then ?_
    refine W_sub _ (.cons (i := 44) rfl (.cons (i := 3) rfl (.cons (i := 2) rfl (.nil _)))) ?_
    refine W_splitd rfl (fun n => ?_) (fun n => ?_)
    · refine W_seq ?_
      refine W_region ?_
      refine L_call (E_call (by kernel_rfl) rfl) (law12_alive _ (hG.ext (((((hn1.ext.trans hx5).trans hx8).trans hx13).trans hn14.ext).then' hp16.only (by simp) (Nat.le_trans (Nat.le_trans (Nat.le_trans hn1.ext.size hx5.size) hx8.size) hx13.size))) (hK.ext (((((hn1.ext.trans hx5).trans hx8).trans hx13).trans hn14.ext).then' hp16.only (by simp) (Nat.le_trans (Nat.le_trans (Nat.le_trans hn1.ext.size hx5.size) hx8.size) hx13.size))) (hN.ext (((((hn1.ext.trans hx5).trans hx8).trans hx13).trans hn14.ext).then' hp16.only (by simp) (Nat.le_trans (Nat.le_trans (Nat.le_trans hn1.ext.size hx5.size) hx8.size) hx13.size))) (hE.ext (((((hn1.ext.trans hx5).trans hx8).trans hx13).trans hn14.ext).then' hp16.only (by simp) (Nat.le_trans (Nat.le_trans (Nat.le_trans hn1.ext.size hx5.size) hx8.size) hx13.size))) (hT.ext (((((hn1.ext.trans hx5).trans hx8).trans hx13).trans hn14.ext).then' hp16.only (by simp) (Nat.le_trans (Nat.le_trans (Nat.le_trans hn1.ext.size hx5.size) hx8.size) hx13.size)))) rfl rfl rfl ?_
      rintro _ h10 ⟨rfl, hx18⟩
      refine L_yld (Y_move rfl) rfl rfl rfl ?_
      refine L_yld (Y_move rfl) rfl rfl rfl ?_
      refine L_yld (Y_len Tryd.underlying24 rfl (hr04.ext ((((hx8.trans hx13).trans hn14.ext).then' hp16.only (by simp) (Nat.le_trans hx8.size hx13.size)).trans hx18))) rfl rfl rfl ?_
      refine L_yld (Y_eql rfl rfl) rfl rfl rfl ?_
      refine L_yld (Y_pick_t rfl rfl) rfl rfl rfl ?_
      refine L_yld (Y_assign rfl) rfl rfl rfl ?_
      refine L_nil ?_
      refine X_then ?_
      refine W_sub _ (.cons (i := 2) rfl (.cons (i := 3) rfl (.nil _))) ?_
      refine W_ret ?_
      refine X_then_ret ?_
      refine X_ret1 rfl rfl ?_
      exact ⟨congrArg Value.bool (decide_eq_true (by rw [eenc_short e0 (List.eq_nil_of_length_eq_zero (by omega))]; rfl)), ((((((hn1.ext.trans hx5).trans hx8).trans hx13).trans hn14.ext).then' hp16.only (by simp) (Nat.le_trans (Nat.le_trans (Nat.le_trans hn1.ext.size hx5.size) hx8.size) hx13.size)).trans hx18)⟩
    · refine W_skip ?_
      refine X_then ?_
      refine W_sub _ (.cons (i := 3) rfl (.cons (i := 2) rfl (.nil _))) ?_
      have hL := eenc_long e0 (fun h9 => n (by rw [h9]; rfl))
      have hL1 := hL.1
      have hL2 := hL.2.1
      refine W_seq ?_
      refine W_region ?_
      refine L_call (E_call (by kernel_rfl) rfl) (law12_alive _ (hG.ext (((((hn1.ext.trans hx5).trans hx8).trans hx13).trans hn14.ext).then' hp16.only (by simp) (Nat.le_trans (Nat.le_trans (Nat.le_trans hn1.ext.size hx5.size) hx8.size) hx13.size))) (hK.ext (((((hn1.ext.trans hx5).trans hx8).trans hx13).trans hn14.ext).then' hp16.only (by simp) (Nat.le_trans (Nat.le_trans (Nat.le_trans hn1.ext.size hx5.size) hx8.size) hx13.size))) (hN.ext (((((hn1.ext.trans hx5).trans hx8).trans hx13).trans hn14.ext).then' hp16.only (by simp) (Nat.le_trans (Nat.le_trans (Nat.le_trans hn1.ext.size hx5.size) hx8.size) hx13.size))) (hE.ext (((((hn1.ext.trans hx5).trans hx8).trans hx13).trans hn14.ext).then' hp16.only (by simp) (Nat.le_trans (Nat.le_trans (Nat.le_trans hn1.ext.size hx5.size) hx8.size) hx13.size))) (hT.ext (((((hn1.ext.trans hx5).trans hx8).trans hx13).trans hn14.ext).then' hp16.only (by simp) (Nat.le_trans (Nat.le_trans (Nat.le_trans hn1.ext.size hx5.size) hx8.size) hx13.size)))) rfl rfl rfl ?_
      rintro _ h11 ⟨rfl, hx19⟩
      refine L_yld (Y_move rfl) rfl rfl rfl ?_
      refine L_yld (Y_move rfl) rfl rfl rfl ?_
      refine L_yld (Y_len Tryd.underlying24 rfl (hr04.ext ((((hx8.trans hx13).trans hn14.ext).then' hp16.only (by simp) (Nat.le_trans hx8.size hx13.size)).trans hx19))) rfl rfl rfl ?_
      refine L_yld (Y_geq rfl rfl) rfl rfl rfl ?_
      refine L_yld (Y_pick_t rfl rfl) rfl rfl rfl ?_
      refine L_yld (Y_move rfl) rfl rfl rfl ?_
      refine L_known (d := 57) true rfl (by exact decide_eq_true (by omega)) ?_
      refine L_yld (Y_move rfl) rfl rfl rfl ?_
      refine L_yld (Y_len Tryd.underlying24 rfl (hr04.ext ((((hx8.trans hx13).trans hn14.ext).then' hp16.only (by simp) (Nat.le_trans hx8.size hx13.size)).trans hx19))) rfl rfl rfl ?_
      refine L_yld (Y_rem rfl rfl (by omega) (by omega)) rfl rfl rfl ?_
      refine L_yld (Y_eql rfl rfl) rfl rfl rfl ?_
      refine L_yld (Y_pick_t rfl rfl) rfl rfl rfl ?_
      refine L_yld (Y_move rfl) rfl rfl rfl ?_
      refine L_known (d := 63) true rfl (by exact decide_eq_true (by omega)) ?_
      refine L_yld (Y_move rfl) rfl rfl rfl ?_
      refine L_yld (Y_idx Tryd.underlying24 (show _ = some 1 by kernel_rfl) rfl rfl (hr04.ext ((((hx8.trans hx13).trans hn14.ext).then' hp16.only (by simp) (Nat.le_trans hx8.size hx13.size)).trans hx19)) (by omega) (by omega)) rfl rfl rfl ?_
      refine L_yld (Y_ldbyte Tryd.underlying5 rfl rfl (hr04.ext ((((hx8.trans hx13).trans hn14.ext).then' hp16.only (by simp) (Nat.le_trans hx8.size hx13.size)).trans hx19)) (by omega) (by omega)) rfl rfl rfl ?_
      refine L_yld (Y_eql rfl rfl) rfl rfl rfl ?_
      refine L_yld (Y_pick_t rfl rfl) rfl rfl rfl ?_
      refine L_yld (Y_move rfl) rfl rfl rfl ?_
      refine L_known (d := 69) true rfl (by exact decide_eq_true (by exact hL.2.2.1)) ?_
      refine L_yld (Y_move rfl) rfl rfl rfl ?_
      have hb20 : Bytes h11 (slcut 1 0 (4 : Int).toNat s03) ((eenc k p m tg z).take 4) := Bytes.cuth (hr04.ext ((((hx8.trans hx13).trans hn14.ext).then' hp16.only (by simp) (Nat.le_trans hx8.size hx13.size)).trans hx19)) (by omega) 
      refine L_yld (Y_cut_h Tryd.underlying24 (show _ = some 1 by kernel_rfl) rfl (hr04.ext ((((hx8.trans hx13).trans hn14.ext).then' hp16.only (by simp) (Nat.le_trans hx8.size hx13.size)).trans hx19)) rfl (by omega) (by omega)) rfl rfl rfl ?_
      refine L_yld (Y_bytes_str Tryd.underlying24 Tryd.underlying5 Tryd.underlying9 rfl hb20) rfl rfl rfl ?_
      refine L_yld (Y_seql rfl rfl) rfl rfl rfl ?_
      refine L_yld (Y_pick_t rfl rfl) rfl rfl rfl ?_
      refine L_yld (Y_assign rfl) rfl rfl rfl ?_
      refine L_nil ?_
      refine X_then ?_
      refine W_sub _ (.cons (i := 2) rfl (.nil _)) ?_
      refine W_ret ?_
      refine X_ret1 rfl rfl ?_
      exact ⟨congrArg Value.bool (decide_eq_true hL.2.2.2.1), ((((((hn1.ext.trans hx5).trans hx8).trans hx13).trans hn14.ext).then' hp16.only (by simp) (Nat.le_trans (Nat.le_trans (Nat.le_trans hn1.ext.size hx5.size) hx8.size) hx13.size)).trans hx19)⟩
end Go.Xp
