/- Layer 12 (entry): the chapter's example, and the law on the length. -/
import Derived.Test.YtmmpnieglihhnaaGreatDoorEncP
import Derived.Test.YtmmpnieglihhnaaGreatDoorRepeat
set_option linter.unusedSimpArgs false
set_option linter.unusedVariables false
set_option linter.unusedSectionVars false
namespace Go.Xp
open Go.Proofs

theorem rone_le {r : Rec} (h : rrest r.key r.val ≤ 1152921504606846976) : (rone r).length ≤ rrest r.key r.val + 25 ∧ 1 ≤ (rone r).length := by
  have h2 := pdig_ok h
  have h4 : rrest r.key r.val = r.key.length + r.val.length + 3 := rfl
  have h3 : psz (rrest r.key r.val) = rrest r.key r.val + pdig (rrest r.key r.val) := rfl
  unfold rone
  simp only [List.length_append, List.length_cons, List.length_nil, Lib.decDigits_length]
  rw [h3, h2.2.2.1]; omega
theorem e1_check : fcheck 0 [97] 0 [] 0 = 0 := by decide +kernel
theorem e1_recs : fR (fcheck 0 [97] 0 [] 0) [97] [] 0 = [] := by
  have hs : sok [97] = true := by decide +kernel
  rw [fR, if_pos e1_check]; simp [frecs, hs]
theorem e2_check : fcheck 1 (Lib.repeatL [110] 300) 0 [] 0 = 0 := by decide +kernel
theorem e2_sok : sok (Lib.repeatL [110] 300) = false := by decide +kernel
theorem e2_len : (Lib.repeatL [110] 300).length = 300 := by rw [repeatL_one, List.length_replicate]
theorem rrest_eq (k v : List UInt8) : rrest k v = k.length + v.length + 3 := rfl
theorem e2_recs : fR (fcheck 1 (Lib.repeatL [110] 300) 0 [] 0) (Lib.repeatL [110] 300) [] 0 = [⟨[112, 97, 116, 104], Lib.repeatL [110] 300⟩] := by
  rw [fR, if_pos e2_check]
  unfold frecs
  rw [if_neg (by simp), e2_sok, if_neg (by decide), if_neg (by decide)]; rfl
theorem e2_size : (eenc 1 (Lib.repeatL [110] 300) 0 [] 0).length = 1536 := by
  have hne : fR (fcheck 1 (Lib.repeatL [110] 300) 0 [] 0) (Lib.repeatL [110] 300) [] 0 ≠ [] := by rw [e2_recs]; simp
  have hr := rlerr_plan e2_check
  have hL := eenc_len e2_check
  rw [if_neg hne] at hL
  have hR : (rfmt (fR (fcheck 1 (Lib.repeatL [110] 300) 0 [] 0) (Lib.repeatL [110] 300) [] 0)).length ≤ 400 ∧ 1 ≤ (rfmt (fR (fcheck 1 (Lib.repeatL [110] 300) 0 [] 0) (Lib.repeatL [110] 300) [] 0)).length := by
    rw [e2_recs] at hr ⊢
    unfold rfmt
    rw [if_pos hr]
    have hq : rrest [112, 97, 116, 104] (Lib.repeatL [110] 300) = 307 := by rw [rrest_eq, e2_len]; rfl
    have := rone_le (r := ⟨[112, 97, 116, 104], Lib.repeatL [110] 300⟩) (by show rrest [112, 97, 116, 104] (Lib.repeatL [110] 300) ≤ _; rw [hq]; decide)
    change (rone ⟨[112, 97, 116, 104], Lib.repeatL [110] 300⟩).length ≤ rrest [112, 97, 116, 104] (Lib.repeatL [110] 300) + 25 ∧ _ at this
    rw [hq] at this
    simp only [List.flatMap_cons, List.flatMap_nil, List.append_nil]
    omega
  rw [hL]
  generalize (rfmt (fR (fcheck 1 (Lib.repeatL [110] 300) 0 [] 0) (Lib.repeatL [110] 300) [] 0)).length = R at hR ⊢
  unfold padn; omega
set_option maxRecDepth 100000 in
theorem law12_alive (h : Heap) (hG : Glb h) (hK : GlbK h) (hN : GlbN h) (hE : GlbE h) (hT : GlbT h) : Cal Tryz.prog 5 #[] h (fun v h' => v = .bool true ∧ Ext h h') := by
  refine Cal_enter (args := []) Tryz.func5 rfl rfl rfl (fun σ => ?_)
  refine W_seq ?_
  refine W_region ?_
  refine L_yld (Y_assign rfl) rfl rfl rfl ?_
  refine L_nil ?_
  refine X_then ?_
  refine W_seq ?_
  refine W_region ?_
  refine L_yld (Y_build (v := .agg #[.int .i64 0, str [97], .int .i64 0, str [], .int .i64 0]) (pv := [(0, .int .i64 0), (1, str [97])]) (evp (is := [0, 1]) (os := [.const (.int .i64 0), .const (str [97])]) (vs := [.int .i64 0, str [97]]) rfl rfl) (fun _ => by kernel_rfl)) rfl rfl rfl ?_
  refine L_call (E_call (by kernel_rfl) rfl) (entry_Encode _ hG hK hN hE hT (0 : Int) [97] (0 : Int) [] (0 : Int) (by decide) (by decide) (by decide)) rfl rfl rfl ?_
  rintro _ h1 ⟨s01, rfl, hr02, hx3⟩
  refine L_yld (Y_move rfl) rfl rfl rfl ?_
  refine L_yld (Y_extract (v := s01) rfl rfl) rfl rfl rfl ?_
  refine L_yld (Y_extract (v := .int .i64 (fcheck (0 : Int) [97] (0 : Int) [] (0 : Int))) rfl rfl) rfl rfl rfl ?_
  refine L_yld (Y_assign rfl) rfl rfl rfl ?_
  refine L_yld (Y_assign rfl) rfl rfl rfl ?_
  refine L_nil ?_
  refine X_then ?_
  refine W_sub _ (.cons (i := 2) rfl (.cons (i := 1) rfl (.cons (i := 0) rfl (.nil _)))) ?_
  refine W_seq ?_
  refine W_region ?_
  refine L_call (E_call (by kernel_rfl) rfl) (strings_Repeat _ [110] (300 : Int) (by decide) (by decide)) rfl rfl rfl ?_
  rintro _ h2 ⟨rfl, hx4⟩
  refine L_yld (Y_build (v := .agg #[.int .i64 1, str (Lib.repeatL [110] (300 : Int).toNat), .int .i64 0, str [], .int .i64 0]) (pv := [(0, .int .i64 1), (1, str (Lib.repeatL [110] (300 : Int).toNat))]) (evp (is := [0, 1]) (os := [.const (.int .i64 1), .tmp 11]) (vs := [.int .i64 1, str (Lib.repeatL [110] (300 : Int).toNat)]) rfl rfl) (fun _ => by kernel_rfl)) rfl rfl rfl ?_
  refine L_call (E_call (by kernel_rfl) rfl) (entry_Encode _ (hG.ext (hx3.trans hx4)) (hK.ext (hx3.trans hx4)) (hN.ext (hx3.trans hx4)) (hE.ext (hx3.trans hx4)) (hT.ext (hx3.trans hx4)) (1 : Int) (Lib.repeatL [110] (300 : Int).toNat) (0 : Int) [] (0 : Int) (by show (Lib.repeatL [110] 300).length ≤ _; rw [e2_len]; decide) (by decide) (by decide)) rfl rfl rfl ?_
  rintro _ h3 ⟨s05, rfl, hr06, hx7⟩
  refine L_yld (Y_move rfl) rfl rfl rfl ?_
  refine L_yld (Y_extract (v := s05) rfl rfl) rfl rfl rfl ?_
  refine L_yld (Y_extract (v := .int .i64 (fcheck (1 : Int) (Lib.repeatL [110] (300 : Int).toNat) (0 : Int) [] (0 : Int))) rfl rfl) rfl rfl rfl ?_
  refine L_yld (Y_assign rfl) rfl rfl rfl ?_
  refine L_yld (Y_assign rfl) rfl rfl rfl ?_
  refine L_nil ?_
  refine X_then ?_
  refine W_sub _ (.cons (i := 4) rfl (.cons (i := 3) rfl (.cons (i := 2) rfl (.cons (i := 1) rfl (.cons (i := 0) rfl (.nil _)))))) ?_
  refine W_seq ?_
  refine W_region ?_
  refine L_yld (Y_move rfl) rfl rfl rfl ?_
  refine L_yld (Y_eql rfl rfl) rfl rfl rfl ?_
  refine L_yld (Y_move rfl) rfl rfl rfl ?_
  refine L_known (d := 18) true rfl (by exact decide_eq_true (by exact e1_check)) ?_
  refine L_yld (Y_move rfl) rfl rfl rfl ?_
  refine L_yld (Y_len Tryz.underlying24 rfl (hr02.ext (hx4.trans hx7))) rfl rfl rfl ?_
  refine L_yld (Y_eql rfl rfl) rfl rfl rfl ?_
  refine L_yld (Y_pick_t rfl rfl) rfl rfl rfl ?_
  refine L_yld (Y_move rfl) rfl rfl rfl ?_
  refine L_known (d := 23) true rfl (by exact decide_eq_true (by rw [eenc_short e1_check e1_recs]; rfl)) ?_
  refine L_yld (Y_move rfl) rfl rfl rfl ?_
  refine L_yld (Y_eql rfl rfl) rfl rfl rfl ?_
  refine L_yld (Y_pick_t rfl rfl) rfl rfl rfl ?_
  refine L_yld (Y_move rfl) rfl rfl rfl ?_
  refine L_known (d := 27) true rfl (by exact decide_eq_true (by exact e2_check)) ?_
  refine L_yld (Y_move rfl) rfl rfl rfl ?_
  refine L_yld (Y_len Tryz.underlying24 rfl hr06) rfl rfl rfl ?_
  refine L_yld (Y_eql rfl rfl) rfl rfl rfl ?_
  refine L_yld (Y_pick_t rfl rfl) rfl rfl rfl ?_
  refine L_yld (Y_assign rfl) rfl rfl rfl ?_
  refine L_nil ?_
  refine X_then ?_
  refine W_sub _ (.cons (i := 0) rfl (.nil _)) ?_
  refine W_ret ?_
  refine X_ret1 rfl rfl ?_
  exact ⟨congrArg Value.bool (decide_eq_true (by show ((eenc 1 (Lib.repeatL [110] 300) 0 [] 0).length : Int) = 1536; rw [e2_size]; rfl)), ((hx3.trans hx4).trans hx7)⟩
end Go.Xp
