/- Layer 7: the law UstarRoundTrip. -/
import Derived.Test.YtmmpnieglihhnaaDoorUstH
import Derived.Test.YtmmpnieglihhnaaDoorUstLaw
import Derived.Test.YtmmpnieglihhnaaDoorEq
set_option linter.unusedSimpArgs false
set_option linter.unusedVariables false
set_option linter.unusedSectionVars false
namespace Go.Xp
open Go.Proofs

theorem udT_lt (b : List UInt8) : 0 ≤ udT b ∧ udT b ≤ 255 := by
  unfold udT
  split
  · exact byt_lt b 156
  · decide

set_option maxRecDepth 100000 in
theorem law07_RoundTrip (h : Heap) (hG : Glb h) (t : Int) (name : List UInt8) (pre : List UInt8) (link : List UInt8) (mode : Int) (size : Int) (v : Value) (b : List UInt8) (hb : Bytes h v b) (ht : 0 ≤ t ∧ t ≤ 255) (h1 : name.length ≤ 140737488355328) (h2 : pre.length ≤ 140737488355328) (h3 : link.length ≤ 140737488355328) (hm : -9223372036854775808 ≤ mode ∧ mode ≤ 9223372036854775807) (hz : -9223372036854775808 ≤ size ∧ size ≤ 9223372036854775807) (hl : b.length ≤ 140737488355328) : Cal Tryd.prog 5 #[.agg #[.int .u8 (t), str name, str pre, str link, .int .i64 (mode), .int .i64 (size)], v] h (fun v h' => v = .bool true ∧ Ext h h') := by
  have hT := udT_lt b
  have hul := uenc_le t name pre link mode size
  refine Cal_enter (args := [.agg #[.int .u8 (t), str name, str pre, str link, .int .i64 (mode), .int .i64 (size)], v]) Tryd.func5 rfl rfl rfl (fun σ => ?_)
  refine W_seq ?_
  refine W_region ?_
  refine L_mks (M_box rfl) rfl rfl rfl ?_
  rintro _ h1 ⟨rfl, hn1⟩
  have hk2 : Blk h1 h.size [.int .u8 (t), str name, str pre, str link, .int .i64 (mode), .int .i64 (size)] := hn1.blk
  refine L_yld (Y_assign rfl) rfl rfl rfl ?_
  refine L_nil ?_
  refine X_then ?_
  refine W_sub _ (.cons (i := 4) rfl (.cons (i := 2) rfl (.cons (i := 1) rfl (.nil _)))) ?_
  refine W_seq ?_
  refine W_cut (S := Unit) (fun _ => [(19, .bool (decide ((2000 < (name.length : Int) + (pre.length : Int) + (link.length : Int)) ∨ (2000 < (b.length : Int))))), (4, .bool false), (2, .pointer (some ⟨h.size, 0, none⟩)), (1, v)]) (fun _ h' => Ext h1 h') ?_ ?_
  · refine W_region ?_
    refine L_yld (Y_ldbox (us := [.int .u8 (t), str name, str pre, str link, .int .i64 (mode), .int .i64 (size)]) Tryd.underlying32 rfl (show _ = some 6 by kernel_rfl) rfl hk2 rfl) rfl rfl rfl ?_
    refine L_call (E_call (by kernel_rfl) rfl) (law07_tooLarge _ t name pre link mode size (by first | first | omega | (simp; omega) | rfl | (simp <;> omega)) (by first | first | omega | (simp; omega) | rfl | (simp <;> omega)) (by first | first | omega | (simp; omega) | rfl | (simp <;> omega))) rfl rfl rfl ?_
    rintro _ h2 ⟨rfl, hx3⟩
    refine L_yld (Y_move rfl) rfl rfl rfl ?_
    refine L_splitd (d := 15) rfl (fun c4 => ?_) (fun c4 => ?_)
    · refine L_skip rfl rfl rfl ?_
      refine L_skip rfl rfl rfl ?_
      refine L_skip rfl rfl rfl ?_
      refine L_yld (Y_pick_t rfl rfl) rfl rfl rfl ?_
      refine L_nil ?_
      exact X_cut () (.cons (i := 19) (lkb rfl (by simp only [eq_true c4, true_and, and_true, false_and, and_false, true_or, or_true, false_or, or_false, not_true_eq_false, not_false_eq_true, decide_true, decide_false, Bool.true_eq_false, Bool.false_eq_true, eq_self, Bool.decide_eq_true])) (.cons (i := 4) rfl (.cons (i := 2) rfl (.cons (i := 1) rfl (.nil _))))) hx3
    · refine L_yld (Y_move rfl) rfl rfl rfl ?_
      refine L_yld (Y_len Tryd.underlying24 rfl (hb.ext (hn1.ext.trans hx3))) rfl rfl rfl ?_
      refine L_yld (Y_gtr rfl rfl) rfl rfl rfl ?_
      refine L_yld (Y_pick_f rfl rfl) rfl rfl rfl ?_
      refine L_nil ?_
      exact X_cut () (.cons (i := 19) (lkb rfl (by simp only [eq_false c4, true_and, and_true, false_and, and_false, true_or, or_true, false_or, or_false, not_true_eq_false, not_false_eq_true, decide_true, decide_false, Bool.true_eq_false, Bool.false_eq_true, eq_self, Bool.decide_eq_true])) (.cons (i := 4) rfl (.cons (i := 2) rfl (.cons (i := 1) rfl (.nil _))))) hx3
  rintro _ h3 hx5
  show W _ _ _ _ _ [(19, .bool (decide ((2000 < (name.length : Int) + (pre.length : Int) + (link.length : Int)) ∨ (2000 < (b.length : Int))))), (4, .bool false), (2, .pointer (some ⟨h.size, 0, none⟩)), (1, v)] _
  refine W_splitd rfl (fun g => ?_) (fun g => ?_)
  · refine W_seq ?_
    refine W_region ?_
    refine L_call (E_call (by kernel_rfl) rfl) (law07_alive _ (hG.ext (hn1.ext.trans hx5))) rfl rfl rfl ?_
    rintro _ h4 ⟨rfl, hx6⟩
    refine L_yld (Y_assign rfl) rfl rfl rfl ?_
    refine L_nil ?_
    refine X_then ?_
    refine W_sub _ (.cons (i := 4) rfl (.cons (i := 2) rfl (.cons (i := 1) rfl (.nil _)))) ?_
    refine W_ret ?_
    refine X_then_ret ?_
    refine X_ret1 rfl rfl ?_
    exact ⟨by simp, ((hn1.ext.trans hx5).trans hx6)⟩
  · refine W_skip ?_
    refine X_then ?_
    refine W_sub _ (.cons (i := 4) rfl (.cons (i := 2) rfl (.cons (i := 1) rfl (.nil _)))) ?_
    refine W_seq ?_
    refine W_seq ?_
    refine W_region ?_
    refine L_yld (Y_ldbox (us := [.int .u8 (t), str name, str pre, str link, .int .i64 (mode), .int .i64 (size)]) Tryd.underlying32 rfl (show _ = some 6 by kernel_rfl) rfl (hk2.ext hx5) rfl) rfl rfl rfl ?_
    refine L_call (E_call (by kernel_rfl) rfl) (ustar_Encode _ (hG.ext (hn1.ext.trans hx5)) t name pre link mode size (by first | first | omega | (simp; omega) | rfl | (simp <;> omega))) rfl rfl rfl ?_
    rintro _ h5 ⟨s07, rfl, hr08, hx9⟩
    refine L_yld (Y_move rfl) rfl rfl rfl ?_
    refine L_yld (Y_extract (v := s07) rfl rfl) rfl rfl rfl ?_
    refine L_yld (Y_extract (v := .int .i64 (ucheck t name pre link mode size)) rfl rfl) rfl rfl rfl ?_
    refine L_yld (Y_assign rfl) rfl rfl rfl ?_
    refine L_yld (Y_assign rfl) rfl rfl rfl ?_
    refine L_nil ?_
    refine X_then ?_
    refine W_sub _ (.cons (i := 6) rfl (.cons (i := 5) rfl (.cons (i := 4) rfl (.cons (i := 2) rfl (.cons (i := 1) rfl (.nil _)))))) ?_
    refine W_seq ?_
    refine W_region ?_
    refine L_yld (Y_move rfl) rfl rfl rfl ?_
    refine L_yld (Y_eql rfl rfl) rfl rfl rfl ?_
    refine L_nil ?_
    refine X_then ?_
    refine W_sub _ (.cons (i := 27) rfl (.cons (i := 5) rfl (.cons (i := 4) rfl (.cons (i := 2) rfl (.cons (i := 1) rfl (.nil _)))))) ?_
    refine W_splitd rfl (fun e => ?_) (fun e => ?_)
    · obtain ⟨r1, r2, r3, r4, r5, r6, r7⟩ := dec_enc ht e
      have r8 := (udok_parts r1).1
      refine W_seq ?_
      refine W_region ?_
      refine L_yld (Y_move rfl) rfl rfl rfl ?_
      refine L_call (E_call (by kernel_rfl) rfl) (ustar_Decode _ (hG.ext ((hn1.ext.trans hx5).trans hx9)) s07 (uenc t name pre link mode size) hr08 (by first | first | omega | (simp; omega) | rfl | (simp <;> omega))) rfl rfl rfl ?_
      rintro _ h6 ⟨rfl, hx10⟩
      refine L_yld (Y_move rfl) rfl rfl rfl ?_
      refine L_yld (Y_extract (v := .agg #[.int .u8 (udT (uenc t name pre link mode size)), str (udN (uenc t name pre link mode size)), str (udP (uenc t name pre link mode size)), str (udL (uenc t name pre link mode size)), .int .i64 (udM (uenc t name pre link mode size)), .int .i64 (udS (uenc t name pre link mode size))]) rfl rfl) rfl rfl rfl ?_
      refine L_yld (Y_extract (v := .int .i64 (uderr (uenc t name pre link mode size))) rfl rfl) rfl rfl rfl ?_
      refine L_mks (M_alloc (u := .agg #[.int .u8 0, str [], str [], str [], .int .i64 0, .int .i64 0]) (by kernel_rfl)) rfl rfl rfl ?_
      rintro _ h7 ⟨rfl, hn11⟩
      have hk12 : Blk h7 h6.size [.int .u8 0, str [], str [], str [], .int .i64 0, .int .i64 0] := hn11.blk
      refine L_dos (D_store (us := [.int .u8 (udT (uenc t name pre link mode size)), str (udN (uenc t name pre link mode size)), str (udP (uenc t name pre link mode size)), str (udL (uenc t name pre link mode size)), .int .i64 (udM (uenc t name pre link mode size)), .int .i64 (udS (uenc t name pre link mode size))]) (show _ = some 6 by kernel_rfl) rfl rfl rfl (by simp [Value.oneCell']) hk12 (by simp)) rfl rfl ?_
      rintro h8 hp13
      have hk14 : Blk h8 h6.size [.int .u8 (udT (uenc t name pre link mode size)), str (udN (uenc t name pre link mode size)), str (udP (uenc t name pre link mode size)), str (udL (uenc t name pre link mode size)), .int .i64 (udM (uenc t name pre link mode size)), .int .i64 (udS (uenc t name pre link mode size))] := hp13.blk
      refine L_yld (Y_assign rfl) rfl rfl rfl ?_
      refine L_nil ?_
      refine X_then ?_
      refine W_sub _ (.cons (i := 8) rfl (.cons (i := 7) rfl (.cons (i := 5) rfl (.cons (i := 4) rfl (.cons (i := 2) rfl (.cons (i := 1) rfl (.nil _))))))) ?_
      refine W_seq ?_
      refine W_region ?_
      refine L_yld (Y_move rfl) rfl rfl rfl ?_
      refine L_yld (Y_neq rfl rfl) rfl rfl rfl ?_
      refine L_yld (Y_move rfl) rfl rfl rfl ?_
      refine L_known (d := 35) false rfl (by exact decide_eq_false (by simp [r1])) ?_
      refine L_yld (Y_ldbox (us := [.int .u8 (udT (uenc t name pre link mode size)), str (udN (uenc t name pre link mode size)), str (udP (uenc t name pre link mode size)), str (udL (uenc t name pre link mode size)), .int .i64 (udM (uenc t name pre link mode size)), .int .i64 (udS (uenc t name pre link mode size))]) Tryd.underlying32 rfl (show _ = some 6 by kernel_rfl) rfl hk14 rfl) rfl rfl rfl ?_
      refine L_yld (Y_ldbox (us := [.int .u8 (t), str name, str pre, str link, .int .i64 (mode), .int .i64 (size)]) Tryd.underlying32 rfl (show _ = some 6 by kernel_rfl) rfl (hk2.ext ((((hx5.trans hx9).trans hx10).trans hn11.ext).then' hp13.only (by simp) (Nat.le_trans (Nat.le_trans hx5.size hx9.size) hx10.size))) rfl) rfl rfl rfl ?_
      refine L_yld (Y_decneg (Y_stneq (xs := [.int .u8 (udT (uenc t name pre link mode size)), str (udN (uenc t name pre link mode size)), str (udP (uenc t name pre link mode size)), str (udL (uenc t name pre link mode size)), .int .i64 (udM (uenc t name pre link mode size)), .int .i64 (udS (uenc t name pre link mode size))]) (ys := [.int .u8 (t), str name, str pre, str link, .int .i64 (mode), .int .i64 (size)]) (r := decide ((udT (uenc t name pre link mode size)) = t ∧ (udN (uenc t name pre link mode size)) = name ∧ (udP (uenc t name pre link mode size)) = pre ∧ (udL (uenc t name pre link mode size)) = link ∧ (udM (uenc t name pre link mode size)) = mode ∧ (udS (uenc t name pre link mode size)) = size)) (by kernel_rfl) (by kernel_rfl) (by kernel_rfl) rfl rfl (steq (ks := [.i .u8, .s, .s, .s, .i .i64, .i .i64]) (by kernel_rfl) (by simp [eqks, eqk])))) rfl rfl rfl ?_
      refine L_yld (Y_pick_f rfl rfl) rfl rfl rfl ?_
      refine L_yld (Y_move rfl) rfl rfl rfl ?_
      refine L_known (d := 40) false rfl (by exact decide_eq_false (by simp [r2, r3, r4, r5, r6, r7])) ?_
      refine L_yld (Y_move rfl) rfl rfl rfl ?_
      refine L_yld (Y_len Tryd.underlying24 rfl (hr08.ext ((hx10.trans hn11.ext).then' hp13.only (by simp) hx10.size))) rfl rfl rfl ?_
      refine L_yld (Y_neq rfl rfl) rfl rfl rfl ?_
      refine L_yld (Y_pick_f rfl rfl) rfl rfl rfl ?_
      refine L_yld (Y_move rfl) rfl rfl rfl ?_
      refine L_known (d := 45) false rfl (by exact decide_eq_false (by simp [uenc_len e])) ?_
      refine L_yld (Y_move rfl) rfl rfl rfl ?_
      refine L_call (E_call (by kernel_rfl) rfl) (checksum_Verify _ s07 (uenc t name pre link mode size) (hr08.ext ((hx10.trans hn11.ext).then' hp13.only (by simp) hx10.size))) rfl rfl rfl ?_
      rintro _ h9 ⟨rfl, hx15⟩
      refine L_yld (Y_neq rfl rfl) rfl rfl rfl ?_
      refine L_yld (Y_pick_f rfl rfl) rfl rfl rfl ?_
      refine L_nil ?_
      refine X_then ?_
      refine W_sub _ (.cons (i := 49) rfl (.cons (i := 4) rfl (.cons (i := 1) rfl (.nil _)))) ?_
      refine W_known false rfl (by exact decide_eq_false (by simp [r8])) ?_
      refine W_skip ?_
      refine X_then ?_
      refine W_sub _ (.cons (i := 4) rfl (.cons (i := 1) rfl (.nil _))) ?_
      refine W_seq ?_
      refine W_region ?_
      refine L_yld (Y_move rfl) rfl rfl rfl ?_
      refine L_call (E_call (by kernel_rfl) rfl) (ustar_Decode _ (hG.ext ((((((hn1.ext.trans hx5).trans hx9).trans hx10).trans hn11.ext).then' hp13.only (by simp) (Nat.le_trans (Nat.le_trans (Nat.le_trans hn1.ext.size hx5.size) hx9.size) hx10.size)).trans hx15)) v b (hb.ext ((((((hn1.ext.trans hx5).trans hx9).trans hx10).trans hn11.ext).then' hp13.only (by simp) (Nat.le_trans (Nat.le_trans (Nat.le_trans hn1.ext.size hx5.size) hx9.size) hx10.size)).trans hx15)) (by first | first | omega | (simp; omega) | rfl | (simp <;> omega))) rfl rfl rfl ?_
      rintro _ h10 ⟨rfl, hx16⟩
      refine L_yld (Y_move rfl) rfl rfl rfl ?_
      refine L_yld (Y_extract (v := .agg #[.int .u8 (udT b), str (udN b), str (udP b), str (udL b), .int .i64 (udM b), .int .i64 (udS b)]) rfl rfl) rfl rfl rfl ?_
      refine L_yld (Y_extract (v := .int .i64 (uderr b)) rfl rfl) rfl rfl rfl ?_
      refine L_mks (M_alloc (u := .agg #[.int .u8 0, str [], str [], str [], .int .i64 0, .int .i64 0]) (by kernel_rfl)) rfl rfl rfl ?_
      rintro _ h11 ⟨rfl, hn17⟩
      have hk18 : Blk h11 h10.size [.int .u8 0, str [], str [], str [], .int .i64 0, .int .i64 0] := hn17.blk
      refine L_dos (D_store (us := [.int .u8 (udT b), str (udN b), str (udP b), str (udL b), .int .i64 (udM b), .int .i64 (udS b)]) (show _ = some 6 by kernel_rfl) rfl rfl rfl (by simp [Value.oneCell']) hk18 (by simp)) rfl rfl ?_
      rintro h12 hp19
      have hk20 : Blk h12 h10.size [.int .u8 (udT b), str (udN b), str (udP b), str (udL b), .int .i64 (udM b), .int .i64 (udS b)] := hp19.blk
      refine L_yld (Y_assign rfl) rfl rfl rfl ?_
      refine L_nil ?_
      refine X_then ?_
      refine W_sub _ (.cons (i := 10) rfl (.cons (i := 9) rfl (.cons (i := 4) rfl (.cons (i := 1) rfl (.nil _))))) ?_
      refine W_seq ?_
      refine W_seq ?_
      refine W_region ?_
      refine L_yld (Y_move rfl) rfl rfl rfl ?_
      refine L_yld (Y_neq rfl rfl) rfl rfl rfl ?_
      refine L_nil ?_
      refine X_then ?_
      refine W_sub _ (.cons (i := 56) rfl (.cons (i := 9) rfl (.cons (i := 4) rfl (.cons (i := 1) rfl (.nil _))))) ?_
      refine W_splitd rfl (fun q => ?_) (fun q => ?_)
      · refine W_seq ?_
        refine W_region ?_
        refine L_call (E_call (by kernel_rfl) rfl) (law07_alive _ (hG.ext (((((((((hn1.ext.trans hx5).trans hx9).trans hx10).trans hn11.ext).then' hp13.only (by simp) (Nat.le_trans (Nat.le_trans (Nat.le_trans hn1.ext.size hx5.size) hx9.size) hx10.size)).trans hx15).trans hx16).trans hn17.ext).then' hp19.only (by simp) (Nat.le_trans (Nat.le_trans (Nat.le_trans (Nat.le_trans (Nat.le_trans (Nat.le_trans (Nat.le_trans hn1.ext.size hx5.size) hx9.size) hx10.size) hn11.ext.size) hp13.only.size) hx15.size) hx16.size)))) rfl rfl rfl ?_
        rintro _ h13 ⟨rfl, hx21⟩
        refine L_yld (Y_move rfl) rfl rfl rfl ?_
        refine L_yld (Y_ldbox (us := [.int .u8 (udT b), str (udN b), str (udP b), str (udL b), .int .i64 (udM b), .int .i64 (udS b)]) Tryd.underlying32 rfl (show _ = some 6 by kernel_rfl) rfl (hk20.ext hx21) rfl) rfl rfl rfl ?_
        refine L_yld (Y_build (v := .agg #[.int .u8 0, str [], str [], str [], .int .i64 0, .int .i64 0]) (pv := []) (evp (is := []) (os := []) (vs := []) rfl rfl) (fun _ => by kernel_rfl)) rfl rfl rfl ?_
        refine L_yld (Y_steql (xs := [.int .u8 (udT b), str (udN b), str (udP b), str (udL b), .int .i64 (udM b), .int .i64 (udS b)]) (ys := [.int .u8 0, str [], str [], str [], .int .i64 0, .int .i64 0]) (r := decide ((udT b) = (0 : Int) ∧ (udN b) = [] ∧ (udP b) = [] ∧ (udL b) = [] ∧ (udM b) = (0 : Int) ∧ (udS b) = (0 : Int))) (by kernel_rfl) (by kernel_rfl) (by kernel_rfl) rfl rfl (steq (ks := [.i .u8, .s, .s, .s, .i .i64, .i .i64]) (by kernel_rfl) (by simp [eqks, eqk]))) rfl rfl rfl ?_
        refine L_yld (Y_pick_t rfl rfl) rfl rfl rfl ?_
        refine L_yld (Y_assign rfl) rfl rfl rfl ?_
        refine L_nil ?_
        refine X_then ?_
        refine W_sub _ (.cons (i := 4) rfl (.cons (i := 9) rfl (.cons (i := 1) rfl (.nil _)))) ?_
        refine W_ret ?_
        refine X_then_ret ?_
        refine X_ret1 rfl rfl ?_
        obtain ⟨z1, z2, z3, z4, z5, z6⟩ := ud_bad rfl q
        exact ⟨by simp [z1, z2, z3, z4, z5, z6], ((((((((((hn1.ext.trans hx5).trans hx9).trans hx10).trans hn11.ext).then' hp13.only (by simp) (Nat.le_trans (Nat.le_trans (Nat.le_trans hn1.ext.size hx5.size) hx9.size) hx10.size)).trans hx15).trans hx16).trans hn17.ext).then' hp19.only (by simp) (Nat.le_trans (Nat.le_trans (Nat.le_trans (Nat.le_trans (Nat.le_trans (Nat.le_trans (Nat.le_trans hn1.ext.size hx5.size) hx9.size) hx10.size) hn11.ext.size) hp13.only.size) hx15.size) hx16.size)).trans hx21)⟩
      · refine W_skip ?_
        refine X_then ?_
        refine W_sub _ (.cons (i := 9) rfl (.cons (i := 4) rfl (.cons (i := 1) rfl (.nil _)))) ?_
        refine W_seq ?_
        refine W_region ?_
        refine L_yld (Y_ldbox (us := [.int .u8 (udT b), str (udN b), str (udP b), str (udL b), .int .i64 (udM b), .int .i64 (udS b)]) Tryd.underlying32 rfl (show _ = some 6 by kernel_rfl) rfl hk20 rfl) rfl rfl rfl ?_
        refine L_call (E_call (by kernel_rfl) rfl) (ustar_Encode _ (hG.ext (((((((((hn1.ext.trans hx5).trans hx9).trans hx10).trans hn11.ext).then' hp13.only (by simp) (Nat.le_trans (Nat.le_trans (Nat.le_trans hn1.ext.size hx5.size) hx9.size) hx10.size)).trans hx15).trans hx16).trans hn17.ext).then' hp19.only (by simp) (Nat.le_trans (Nat.le_trans (Nat.le_trans (Nat.le_trans (Nat.le_trans (Nat.le_trans (Nat.le_trans hn1.ext.size hx5.size) hx9.size) hx10.size) hn11.ext.size) hp13.only.size) hx15.size) hx16.size))) (udT b) (udN b) (udP b) (udL b) (udM b) (udS b) (by first | first | omega | (simp; omega) | rfl | (simp <;> omega))) rfl rfl rfl ?_
        rintro _ h14 ⟨s022, rfl, hr023, hx24⟩
        refine L_yld (Y_move rfl) rfl rfl rfl ?_
        refine L_yld (Y_extract (v := s022) rfl rfl) rfl rfl rfl ?_
        refine L_yld (Y_extract (v := .int .i64 (ucheck (udT b) (udN b) (udP b) (udL b) (udM b) (udS b))) rfl rfl) rfl rfl rfl ?_
        refine L_yld (Y_assign rfl) rfl rfl rfl ?_
        refine L_yld (Y_assign rfl) rfl rfl rfl ?_
        refine L_nil ?_
        refine X_then ?_
        refine W_sub _ (.cons (i := 12) rfl (.cons (i := 11) rfl (.cons (i := 4) rfl (.cons (i := 1) rfl (.nil _))))) ?_
        refine W_cut (S := Unit) (fun _ => [(4, .bool (decide (((ucheck (udT b) (udN b) (udP b) (udL b) (udM b) (udS b)) = 0) ∧ ((uenc (udT b) (udN b) (udP b) (udL b) (udM b) (udS b)) = b))))]) (fun _ h' => Ext h14 h') ?_ ?_
        · refine W_region ?_
          refine L_call (E_call (by kernel_rfl) rfl) (law07_alive _ (hG.ext ((((((((((hn1.ext.trans hx5).trans hx9).trans hx10).trans hn11.ext).then' hp13.only (by simp) (Nat.le_trans (Nat.le_trans (Nat.le_trans hn1.ext.size hx5.size) hx9.size) hx10.size)).trans hx15).trans hx16).trans hn17.ext).then' hp19.only (by simp) (Nat.le_trans (Nat.le_trans (Nat.le_trans (Nat.le_trans (Nat.le_trans (Nat.le_trans (Nat.le_trans hn1.ext.size hx5.size) hx9.size) hx10.size) hn11.ext.size) hp13.only.size) hx15.size) hx16.size)).trans hx24))) rfl rfl rfl ?_
          rintro _ h15 ⟨rfl, hx25⟩
          refine L_yld (Y_move rfl) rfl rfl rfl ?_
          refine L_yld (Y_move rfl) rfl rfl rfl ?_
          refine L_yld (Y_eql rfl rfl) rfl rfl rfl ?_
          refine L_yld (Y_pick_t rfl rfl) rfl rfl rfl ?_
          refine L_yld (Y_move rfl) rfl rfl rfl ?_
          refine L_splitd (d := 73) rfl (fun c26 => ?_) (fun c26 => ?_)
          · refine L_yld (Y_move rfl) rfl rfl rfl ?_
            refine L_yld (Y_bytes_str Tryd.underlying24 Tryd.underlying5 Tryd.underlying9 rfl (hr023.ext hx25)) rfl rfl rfl ?_
            refine L_yld (Y_move rfl) rfl rfl rfl ?_
            refine L_yld (Y_bytes_str Tryd.underlying24 Tryd.underlying5 Tryd.underlying9 rfl (hb.ext (((((((((((hn1.ext.trans hx5).trans hx9).trans hx10).trans hn11.ext).then' hp13.only (by simp) (Nat.le_trans (Nat.le_trans (Nat.le_trans hn1.ext.size hx5.size) hx9.size) hx10.size)).trans hx15).trans hx16).trans hn17.ext).then' hp19.only (by simp) (Nat.le_trans (Nat.le_trans (Nat.le_trans (Nat.le_trans (Nat.le_trans (Nat.le_trans (Nat.le_trans hn1.ext.size hx5.size) hx9.size) hx10.size) hn11.ext.size) hp13.only.size) hx15.size) hx16.size)).trans hx24).trans hx25))) rfl rfl rfl ?_
            refine L_yld (Y_seql rfl rfl) rfl rfl rfl ?_
            refine L_yld (Y_pick_t rfl rfl) rfl rfl rfl ?_
            refine L_yld (Y_assign rfl) rfl rfl rfl ?_
            refine L_nil ?_
            exact X_cut () (.cons (i := 4) (lkb rfl (by simp only [eq_true c26, true_and, and_true, false_and, and_false, true_or, or_true, false_or, or_false, not_true_eq_false, not_false_eq_true, decide_true, decide_false, Bool.true_eq_false, Bool.false_eq_true, eq_self, Bool.decide_eq_true])) (.nil _)) hx25
          · refine L_skip rfl rfl rfl ?_
            refine L_skip rfl rfl rfl ?_
            refine L_skip rfl rfl rfl ?_
            refine L_skip rfl rfl rfl ?_
            refine L_skip rfl rfl rfl ?_
            refine L_yld (Y_pick_f rfl rfl) rfl rfl rfl ?_
            refine L_yld (Y_assign rfl) rfl rfl rfl ?_
            refine L_nil ?_
            exact X_cut () (.cons (i := 4) (lkb rfl (by simp only [eq_false c26, true_and, and_true, false_and, and_false, true_or, or_true, false_or, or_false, not_true_eq_false, not_false_eq_true, decide_true, decide_false, Bool.true_eq_false, Bool.false_eq_true, eq_self, Bool.decide_eq_true])) (.nil _)) hx25
        rintro _ h16 hx27
        show W _ _ _ _ _ [(4, .bool (decide (((ucheck (udT b) (udN b) (udP b) (udL b) (udM b) (udS b)) = 0) ∧ ((uenc (udT b) (udN b) (udP b) (udL b) (udM b) (udS b)) = b))))] _
        refine W_ret ?_
        refine X_ret1 rfl rfl ?_
        obtain ⟨u1, u2, u3⟩ := udok_parts (b := b) (by simpa using q)
        exact ⟨by simp [u2, u3], (((((((((((hn1.ext.trans hx5).trans hx9).trans hx10).trans hn11.ext).then' hp13.only (by simp) (Nat.le_trans (Nat.le_trans (Nat.le_trans hn1.ext.size hx5.size) hx9.size) hx10.size)).trans hx15).trans hx16).trans hn17.ext).then' hp19.only (by simp) (Nat.le_trans (Nat.le_trans (Nat.le_trans (Nat.le_trans (Nat.le_trans (Nat.le_trans (Nat.le_trans hn1.ext.size hx5.size) hx9.size) hx10.size) hn11.ext.size) hp13.only.size) hx15.size) hx16.size)).trans hx24).trans hx27)⟩
    · refine W_skip ?_
      refine X_then ?_
      refine W_sub _ (.cons (i := 4) rfl (.cons (i := 1) rfl (.nil _))) ?_
      refine W_seq ?_
      refine W_region ?_
      refine L_yld (Y_move rfl) rfl rfl rfl ?_
      refine L_call (E_call (by kernel_rfl) rfl) (ustar_Decode _ (hG.ext ((hn1.ext.trans hx5).trans hx9)) v b (hb.ext ((hn1.ext.trans hx5).trans hx9)) (by first | first | omega | (simp; omega) | rfl | (simp <;> omega))) rfl rfl rfl ?_
      rintro _ h17 ⟨rfl, hx28⟩
      refine L_yld (Y_move rfl) rfl rfl rfl ?_
      refine L_yld (Y_extract (v := .agg #[.int .u8 (udT b), str (udN b), str (udP b), str (udL b), .int .i64 (udM b), .int .i64 (udS b)]) rfl rfl) rfl rfl rfl ?_
      refine L_yld (Y_extract (v := .int .i64 (uderr b)) rfl rfl) rfl rfl rfl ?_
      refine L_mks (M_alloc (u := .agg #[.int .u8 0, str [], str [], str [], .int .i64 0, .int .i64 0]) (by kernel_rfl)) rfl rfl rfl ?_
      rintro _ h18 ⟨rfl, hn29⟩
      have hk30 : Blk h18 h17.size [.int .u8 0, str [], str [], str [], .int .i64 0, .int .i64 0] := hn29.blk
      refine L_dos (D_store (us := [.int .u8 (udT b), str (udN b), str (udP b), str (udL b), .int .i64 (udM b), .int .i64 (udS b)]) (show _ = some 6 by kernel_rfl) rfl rfl rfl (by simp [Value.oneCell']) hk30 (by simp)) rfl rfl ?_
      rintro h19 hp31
      have hk32 : Blk h19 h17.size [.int .u8 (udT b), str (udN b), str (udP b), str (udL b), .int .i64 (udM b), .int .i64 (udS b)] := hp31.blk
      refine L_yld (Y_assign rfl) rfl rfl rfl ?_
      refine L_nil ?_
      refine X_then ?_
      refine W_sub _ (.cons (i := 10) rfl (.cons (i := 9) rfl (.cons (i := 4) rfl (.cons (i := 1) rfl (.nil _))))) ?_
      refine W_seq ?_
      refine W_seq ?_
      refine W_region ?_
      refine L_yld (Y_move rfl) rfl rfl rfl ?_
      refine L_yld (Y_neq rfl rfl) rfl rfl rfl ?_
      refine L_nil ?_
      refine X_then ?_
      refine W_sub _ (.cons (i := 56) rfl (.cons (i := 9) rfl (.cons (i := 4) rfl (.cons (i := 1) rfl (.nil _))))) ?_
      refine W_splitd rfl (fun q => ?_) (fun q => ?_)
      · refine W_seq ?_
        refine W_region ?_
        refine L_call (E_call (by kernel_rfl) rfl) (law07_alive _ (hG.ext (((((hn1.ext.trans hx5).trans hx9).trans hx28).trans hn29.ext).then' hp31.only (by simp) (Nat.le_trans (Nat.le_trans (Nat.le_trans hn1.ext.size hx5.size) hx9.size) hx28.size)))) rfl rfl rfl ?_
        rintro _ h20 ⟨rfl, hx33⟩
        refine L_yld (Y_move rfl) rfl rfl rfl ?_
        refine L_yld (Y_ldbox (us := [.int .u8 (udT b), str (udN b), str (udP b), str (udL b), .int .i64 (udM b), .int .i64 (udS b)]) Tryd.underlying32 rfl (show _ = some 6 by kernel_rfl) rfl (hk32.ext hx33) rfl) rfl rfl rfl ?_
        refine L_yld (Y_build (v := .agg #[.int .u8 0, str [], str [], str [], .int .i64 0, .int .i64 0]) (pv := []) (evp (is := []) (os := []) (vs := []) rfl rfl) (fun _ => by kernel_rfl)) rfl rfl rfl ?_
        refine L_yld (Y_steql (xs := [.int .u8 (udT b), str (udN b), str (udP b), str (udL b), .int .i64 (udM b), .int .i64 (udS b)]) (ys := [.int .u8 0, str [], str [], str [], .int .i64 0, .int .i64 0]) (r := decide ((udT b) = (0 : Int) ∧ (udN b) = [] ∧ (udP b) = [] ∧ (udL b) = [] ∧ (udM b) = (0 : Int) ∧ (udS b) = (0 : Int))) (by kernel_rfl) (by kernel_rfl) (by kernel_rfl) rfl rfl (steq (ks := [.i .u8, .s, .s, .s, .i .i64, .i .i64]) (by kernel_rfl) (by simp [eqks, eqk]))) rfl rfl rfl ?_
        refine L_yld (Y_pick_t rfl rfl) rfl rfl rfl ?_
        refine L_yld (Y_assign rfl) rfl rfl rfl ?_
        refine L_nil ?_
        refine X_then ?_
        refine W_sub _ (.cons (i := 4) rfl (.cons (i := 9) rfl (.cons (i := 1) rfl (.nil _)))) ?_
        refine W_ret ?_
        refine X_then_ret ?_
        refine X_ret1 rfl rfl ?_
        obtain ⟨z1, z2, z3, z4, z5, z6⟩ := ud_bad rfl q
        exact ⟨by simp [z1, z2, z3, z4, z5, z6], ((((((hn1.ext.trans hx5).trans hx9).trans hx28).trans hn29.ext).then' hp31.only (by simp) (Nat.le_trans (Nat.le_trans (Nat.le_trans hn1.ext.size hx5.size) hx9.size) hx28.size)).trans hx33)⟩
      · refine W_skip ?_
        refine X_then ?_
        refine W_sub _ (.cons (i := 9) rfl (.cons (i := 4) rfl (.cons (i := 1) rfl (.nil _)))) ?_
        refine W_seq ?_
        refine W_region ?_
        refine L_yld (Y_ldbox (us := [.int .u8 (udT b), str (udN b), str (udP b), str (udL b), .int .i64 (udM b), .int .i64 (udS b)]) Tryd.underlying32 rfl (show _ = some 6 by kernel_rfl) rfl hk32 rfl) rfl rfl rfl ?_
        refine L_call (E_call (by kernel_rfl) rfl) (ustar_Encode _ (hG.ext (((((hn1.ext.trans hx5).trans hx9).trans hx28).trans hn29.ext).then' hp31.only (by simp) (Nat.le_trans (Nat.le_trans (Nat.le_trans hn1.ext.size hx5.size) hx9.size) hx28.size))) (udT b) (udN b) (udP b) (udL b) (udM b) (udS b) (by first | first | omega | (simp; omega) | rfl | (simp <;> omega))) rfl rfl rfl ?_
        rintro _ h21 ⟨s034, rfl, hr035, hx36⟩
        refine L_yld (Y_move rfl) rfl rfl rfl ?_
        refine L_yld (Y_extract (v := s034) rfl rfl) rfl rfl rfl ?_
        refine L_yld (Y_extract (v := .int .i64 (ucheck (udT b) (udN b) (udP b) (udL b) (udM b) (udS b))) rfl rfl) rfl rfl rfl ?_
        refine L_yld (Y_assign rfl) rfl rfl rfl ?_
        refine L_yld (Y_assign rfl) rfl rfl rfl ?_
        refine L_nil ?_
        refine X_then ?_
        refine W_sub _ (.cons (i := 12) rfl (.cons (i := 11) rfl (.cons (i := 4) rfl (.cons (i := 1) rfl (.nil _))))) ?_
        refine W_cut (S := Unit) (fun _ => [(4, .bool (decide (((ucheck (udT b) (udN b) (udP b) (udL b) (udM b) (udS b)) = 0) ∧ ((uenc (udT b) (udN b) (udP b) (udL b) (udM b) (udS b)) = b))))]) (fun _ h' => Ext h21 h') ?_ ?_
        · refine W_region ?_
          refine L_call (E_call (by kernel_rfl) rfl) (law07_alive _ (hG.ext ((((((hn1.ext.trans hx5).trans hx9).trans hx28).trans hn29.ext).then' hp31.only (by simp) (Nat.le_trans (Nat.le_trans (Nat.le_trans hn1.ext.size hx5.size) hx9.size) hx28.size)).trans hx36))) rfl rfl rfl ?_
          rintro _ h22 ⟨rfl, hx37⟩
          refine L_yld (Y_move rfl) rfl rfl rfl ?_
          refine L_yld (Y_move rfl) rfl rfl rfl ?_
          refine L_yld (Y_eql rfl rfl) rfl rfl rfl ?_
          refine L_yld (Y_pick_t rfl rfl) rfl rfl rfl ?_
          refine L_yld (Y_move rfl) rfl rfl rfl ?_
          refine L_splitd (d := 73) rfl (fun c38 => ?_) (fun c38 => ?_)
          · refine L_yld (Y_move rfl) rfl rfl rfl ?_
            refine L_yld (Y_bytes_str Tryd.underlying24 Tryd.underlying5 Tryd.underlying9 rfl (hr035.ext hx37)) rfl rfl rfl ?_
            refine L_yld (Y_move rfl) rfl rfl rfl ?_
            refine L_yld (Y_bytes_str Tryd.underlying24 Tryd.underlying5 Tryd.underlying9 rfl (hb.ext (((((((hn1.ext.trans hx5).trans hx9).trans hx28).trans hn29.ext).then' hp31.only (by simp) (Nat.le_trans (Nat.le_trans (Nat.le_trans hn1.ext.size hx5.size) hx9.size) hx28.size)).trans hx36).trans hx37))) rfl rfl rfl ?_
            refine L_yld (Y_seql rfl rfl) rfl rfl rfl ?_
            refine L_yld (Y_pick_t rfl rfl) rfl rfl rfl ?_
            refine L_yld (Y_assign rfl) rfl rfl rfl ?_
            refine L_nil ?_
            exact X_cut () (.cons (i := 4) (lkb rfl (by simp only [eq_true c38, true_and, and_true, false_and, and_false, true_or, or_true, false_or, or_false, not_true_eq_false, not_false_eq_true, decide_true, decide_false, Bool.true_eq_false, Bool.false_eq_true, eq_self, Bool.decide_eq_true])) (.nil _)) hx37
          · refine L_skip rfl rfl rfl ?_
            refine L_skip rfl rfl rfl ?_
            refine L_skip rfl rfl rfl ?_
            refine L_skip rfl rfl rfl ?_
            refine L_skip rfl rfl rfl ?_
            refine L_yld (Y_pick_f rfl rfl) rfl rfl rfl ?_
            refine L_yld (Y_assign rfl) rfl rfl rfl ?_
            refine L_nil ?_
            exact X_cut () (.cons (i := 4) (lkb rfl (by simp only [eq_false c38, true_and, and_true, false_and, and_false, true_or, or_true, false_or, or_false, not_true_eq_false, not_false_eq_true, decide_true, decide_false, Bool.true_eq_false, Bool.false_eq_true, eq_self, Bool.decide_eq_true])) (.nil _)) hx37
        rintro _ h23 hx39
        show W _ _ _ _ _ [(4, .bool (decide (((ucheck (udT b) (udN b) (udP b) (udL b) (udM b) (udS b)) = 0) ∧ ((uenc (udT b) (udN b) (udP b) (udL b) (udM b) (udS b)) = b))))] _
        refine W_ret ?_
        refine X_ret1 rfl rfl ?_
        obtain ⟨u1, u2, u3⟩ := udok_parts (b := b) (by simpa using q)
        exact ⟨by simp [u2, u3], (((((((hn1.ext.trans hx5).trans hx9).trans hx28).trans hn29.ext).then' hp31.only (by simp) (Nat.le_trans (Nat.le_trans (Nat.le_trans hn1.ext.size hx5.size) hx9.size) hx28.size)).trans hx36).trans hx39)⟩

end Go.Xp
