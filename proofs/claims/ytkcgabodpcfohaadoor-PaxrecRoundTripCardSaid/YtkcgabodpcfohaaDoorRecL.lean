/- Layer 9 (paxrec): the laws. -/
import Derived.Test.YtkcgabodpcfohaaDoorRecF
set_option linter.unusedSimpArgs false
set_option linter.unusedVariables false
set_option linter.unusedSectionVars false
namespace Go.Xp
open Go.Proofs

theorem repeatL_len (c : UInt8) (k : Nat) : (Lib.repeatL [c] k).length = k := by rw [repeatL_one]; simp

set_option maxRecDepth 100000 in
theorem paxrecSizeIsLeast (h : Heap) (hK : GlbK h) (hN : GlbN h) (hE : GlbE h) (a : Int) (b : Int) (ha : 0 ≤ a ∧ a ≤ 65535) (hb : 0 ≤ b ∧ b ≤ 65535) : Cal Tryd.prog 6 #[.int .u16 (a), .int .u16 (b)] h (fun v h' => v = .bool true ∧ Ext h h') := by
  have hk := repeatL_len 107 (a % 300).toNat
  have hv := repeatL_len 118 (b % 2000).toNat
  have hr : rrest (Lib.repeatL [107] (a % 300).toNat) (Lib.repeatL [118] (b % 2000).toNat) ≤ 1152921504606846976 := by unfold rrest; omega
  have hrv : rrest (Lib.repeatL [107] (a % 300).toNat) (Lib.repeatL [118] (b % 2000).toNat) = (Lib.repeatL [107] (a % 300).toNat).length + (Lib.repeatL [118] (b % 2000).toNat).length + 3 := rfl
  have hp := pdig_ok hr
  have hpz : psz (rrest (Lib.repeatL [107] (a % 300).toNat) (Lib.repeatL [118] (b % 2000).toNat)) = rrest (Lib.repeatL [107] (a % 300).toNat) (Lib.repeatL [118] (b % 2000).toNat) + pdig (rrest (Lib.repeatL [107] (a % 300).toNat) (Lib.repeatL [118] (b % 2000).toNat)) := rfl
  refine Cal_enter (args := [.int .u16 (a), .int .u16 (b)]) Tryd.func6 rfl rfl rfl (fun σ => ?_)
  refine W_seq ?_
  refine W_region ?_
  refine L_yld (Y_assign rfl) rfl rfl rfl ?_
  refine L_nil ?_
  refine X_then ?_
  refine W_seq ?_
  refine W_region ?_
  refine L_yld (Y_move rfl) rfl rfl rfl ?_
  refine L_yld (Y_convs Tryd.underlying41 Tryd.underlying3 rfl (wrap_i64 (by first | omega | (simp; omega)) (by first | omega | (simp; omega)))) rfl rfl rfl ?_
  refine L_yld (Y_rem rfl rfl (by omega) (by omega)) rfl rfl rfl ?_
  refine L_call (E_call (by kernel_rfl) rfl) (strings_Repeat _ [107] (a % 300) (by first | first | omega | (simp; omega) | rfl | (simp <;> omega)) (by first | first | omega | (simp; omega) | rfl | (simp <;> omega))) rfl rfl rfl ?_
  rintro _ h1 ⟨rfl, hx1⟩
  refine L_yld (Y_move rfl) rfl rfl rfl ?_
  refine L_yld (Y_convs Tryd.underlying41 Tryd.underlying3 rfl (wrap_i64 (by first | omega | (simp; omega)) (by first | omega | (simp; omega)))) rfl rfl rfl ?_
  refine L_yld (Y_rem rfl rfl (by omega) (by omega)) rfl rfl rfl ?_
  refine L_call (E_call (by kernel_rfl) rfl) (strings_Repeat _ [118] (b % 2000) (by first | first | omega | (simp; omega) | rfl | (simp <;> omega)) (by first | first | omega | (simp; omega) | rfl | (simp <;> omega))) rfl rfl rfl ?_
  rintro _ h2 ⟨rfl, hx2⟩
  refine L_yld (Y_build (v := .agg #[str (Lib.repeatL [107] (a % 300).toNat), str (Lib.repeatL [118] (b % 2000).toNat)]) (pv := [(0, str (Lib.repeatL [107] (a % 300).toNat)), (1, str (Lib.repeatL [118] (b % 2000).toNat))]) (evp (is := [0, 1]) (os := [.tmp 12, .tmp 16]) (vs := [str (Lib.repeatL [107] (a % 300).toNat), str (Lib.repeatL [118] (b % 2000).toNat)]) rfl rfl) (fun _ => by kernel_rfl)) rfl rfl rfl ?_
  refine L_mks (M_alloc (u := .agg #[str [], str []]) (by kernel_rfl)) rfl rfl rfl ?_
  rintro _ h3 ⟨rfl, hn3⟩
  have hk4 : Blk h3 h2.size [str [], str []] := hn3.blk
  refine L_dos (D_store (us := [str (Lib.repeatL [107] (a % 300).toNat), str (Lib.repeatL [118] (b % 2000).toNat)]) (show _ = some 2 by kernel_rfl) rfl rfl rfl (by simp [Value.oneCell']) hk4 (by simp)) rfl rfl ?_
  rintro h4 hp5
  have hk6 : Blk h4 h2.size [str (Lib.repeatL [107] (a % 300).toNat), str (Lib.repeatL [118] (b % 2000).toNat)] := hp5.blk
  refine L_nil ?_
  refine X_then ?_
  refine W_sub _ (.cons (i := 5) rfl (.cons (i := 4) rfl (.nil _))) ?_
  refine W_seq ?_
  refine W_region ?_
  refine L_yld (Y_fieldAddr (off := 0) (by kernel_rfl) rfl rfl) rfl rfl rfl ?_
  refine L_yld (Y_ldblk Tryd.underlying9 rfl rfl hk6 rfl) rfl rfl rfl ?_
  refine L_yld (Y_slen Tryd.underlying9 rfl) rfl rfl rfl ?_
  refine L_yld (Y_fieldAddr (off := 1) (by kernel_rfl) rfl rfl) rfl rfl rfl ?_
  refine L_yld (Y_ldblk Tryd.underlying9 rfl rfl hk6 rfl) rfl rfl rfl ?_
  refine L_yld (Y_slen Tryd.underlying9 rfl) rfl rfl rfl ?_
  refine L_yld (Y_add rfl rfl (by first | omega | (simp; omega)) (by first | omega | (simp; omega))) rfl rfl rfl ?_
  refine L_yld (Y_add rfl rfl (by first | omega | (simp; omega)) (by first | omega | (simp; omega))) rfl rfl rfl ?_
  refine L_yld (Y_assign rfl) rfl rfl rfl ?_
  refine L_nil ?_
  refine X_then ?_
  refine W_sub _ (.cons (i := 6) rfl (.cons (i := 5) rfl (.cons (i := 4) rfl (.nil _)))) ?_
  refine W_seq ?_
  refine W_region ?_
  refine L_yld (Y_ldbox (us := [str (Lib.repeatL [107] (a % 300).toNat), str (Lib.repeatL [118] (b % 2000).toNat)]) Tryd.underlying30 rfl (show _ = some 2 by kernel_rfl) rfl hk6 rfl) rfl rfl rfl ?_
  refine L_call (E_call (by kernel_rfl) rfl) (rec_Size _ (hN.ext (((hx1.trans hx2).trans hn3.ext).then' hp5.only (by simp) (Nat.le_trans hx1.size hx2.size))) (Lib.repeatL [107] (a % 300).toNat) (Lib.repeatL [118] (b % 2000).toNat) (by first | first | omega | (simp; omega) | rfl | (simp <;> omega)) (by first | first | omega | (simp; omega) | rfl | (simp <;> omega))) rfl rfl rfl ?_
  rintro _ h5 ⟨rfl, hx7⟩
  refine L_yld (Y_assign rfl) rfl rfl rfl ?_
  refine L_nil ?_
  refine X_then ?_
  refine W_sub _ (.cons (i := 7) rfl (.cons (i := 6) rfl (.cons (i := 4) rfl (.nil _)))) ?_
  have hil := itoa_len (n := ((psz (rrest (Lib.repeatL [107] (a % 300).toNat) (Lib.repeatL [118] (b % 2000).toNat)) : Nat) : Int)) (by omega)
  rw [Int.toNat_natCast] at hil
  have hil2 : (Lib.itoa ((psz (rrest (Lib.repeatL [107] (a % 300).toNat) (Lib.repeatL [118] (b % 2000).toNat)) : Nat) : Int)).length = pdig (rrest (Lib.repeatL [107] (a % 300).toNat) (Lib.repeatL [118] (b % 2000).toNat)) := by rw [hil, hpz, hp.2.2.1]
  refine W_seq ?_
  refine W_seq ?_
  refine W_region ?_
  refine L_yld (Y_move rfl) rfl rfl rfl ?_
  refine L_call (E_call (by kernel_rfl) rfl) (strconv_Itoa _ (hN.ext ((((hx1.trans hx2).trans hn3.ext).then' hp5.only (by simp) (Nat.le_trans hx1.size hx2.size)).trans hx7)) (psz (rrest (Lib.repeatL [107] (a % 300).toNat) (Lib.repeatL [118] (b % 2000).toNat)) : Int) (by first | first | omega | (simp; omega) | rfl | (simp <;> omega))) rfl rfl rfl ?_
  rintro _ h6 ⟨rfl, hx8⟩
  refine L_yld (Y_slen Tryd.underlying9 rfl) rfl rfl rfl ?_
  refine L_yld (Y_move rfl) rfl rfl rfl ?_
  refine L_yld (Y_add rfl rfl (by first | omega | (simp; omega)) (by first | omega | (simp; omega))) rfl rfl rfl ?_
  refine L_yld (Y_move rfl) rfl rfl rfl ?_
  refine L_yld (Y_neq rfl rfl) rfl rfl rfl ?_
  refine L_nil ?_
  refine X_then ?_
  refine W_sub _ (.cons (i := 34) rfl (.cons (i := 7) rfl (.cons (i := 6) rfl (.cons (i := 4) rfl (.nil _))))) ?_
  refine W_known false rfl (by exact decide_eq_false (by omega)) ?_
  refine W_skip ?_
  refine X_then ?_
  refine W_sub _ (.cons (i := 7) rfl (.cons (i := 6) rfl (.cons (i := 4) rfl (.nil _)))) ?_
  refine W_seq ?_
  refine W_seq ?_
  refine W_region ?_
  refine L_yld (Y_move rfl) rfl rfl rfl ?_
  refine L_yld (Y_add rfl rfl (by first | omega | (simp; omega)) (by first | omega | (simp; omega))) rfl rfl rfl ?_
  refine L_yld (Y_assign rfl) rfl rfl rfl ?_
  refine L_nil ?_
  refine X_then ?_
  refine W_sub _ (.cons (i := 8) rfl (.cons (i := 7) rfl (.cons (i := 6) rfl (.cons (i := 4) rfl (.nil _))))) ?_
  refine W_block ?_
  refine W_loop (S := Nat) (fun e => [(7, .int .i64 ((psz (rrest (Lib.repeatL [107] (a % 300).toNat) (Lib.repeatL [118] (b % 2000).toNat)) : Int))), (6, .int .i64 ((((Lib.repeatL [107] (a % 300).toNat).length : Int) + ((Lib.repeatL [118] (b % 2000).toNat).length : Int)) + 3)), (8, .int .i64 (((rrest (Lib.repeatL [107] (a % 300).toNat) (Lib.repeatL [118] (b % 2000).toNat) + e : Nat) : Int)))]) (fun e h' => 1 ≤ e ∧ Ext h6 h') (fun e => 30 - e) 1 (.cons (i := 7) rfl (.cons (i := 6) rfl (.cons (i := 8) (lki rfl (by omega)) (.nil _)))) ?_ ?_
  · exact ⟨by omega, Ext.refl _⟩
  rintro e h7 ⟨he1, hx⟩
  show W _ _ _ _ _ [(7, .int .i64 ((psz (rrest (Lib.repeatL [107] (a % 300).toNat) (Lib.repeatL [118] (b % 2000).toNat)) : Int))), (6, .int .i64 ((((Lib.repeatL [107] (a % 300).toNat).length : Int) + ((Lib.repeatL [118] (b % 2000).toNat).length : Int)) + 3)), (8, .int .i64 (((rrest (Lib.repeatL [107] (a % 300).toNat) (Lib.repeatL [118] (b % 2000).toNat) + e : Nat) : Int)))] _
  refine W_seq ?_
  refine W_cut (S := Unit) (fun _ => [(45, .bool (decide ((((rrest (Lib.repeatL [107] (a % 300).toNat) (Lib.repeatL [118] (b % 2000).toNat) + e : Nat) : Int) < (psz (rrest (Lib.repeatL [107] (a % 300).toNat) (Lib.repeatL [118] (b % 2000).toNat)) : Int)) ∧ (((rrest (Lib.repeatL [107] (a % 300).toNat) (Lib.repeatL [118] (b % 2000).toNat) + e : Nat) : Int) < (((((Lib.repeatL [107] (a % 300).toNat).length : Int) + ((Lib.repeatL [118] (b % 2000).toNat).length : Int)) + 3) + 10))))), (7, .int .i64 ((psz (rrest (Lib.repeatL [107] (a % 300).toNat) (Lib.repeatL [118] (b % 2000).toNat)) : Int))), (6, .int .i64 ((((Lib.repeatL [107] (a % 300).toNat).length : Int) + ((Lib.repeatL [118] (b % 2000).toNat).length : Int)) + 3)), (8, .int .i64 (((rrest (Lib.repeatL [107] (a % 300).toNat) (Lib.repeatL [118] (b % 2000).toNat) + e : Nat) : Int)))]) (fun _ h' => h' = h7) ?_ ?_
  · refine W_region ?_
    refine L_yld (Y_move rfl) rfl rfl rfl ?_
    refine L_yld (Y_move rfl) rfl rfl rfl ?_
    refine L_yld (Y_lss rfl rfl) rfl rfl rfl ?_
    refine L_yld (Y_move rfl) rfl rfl rfl ?_
    refine L_splitd (d := 40) rfl (fun c9 => ?_) (fun c9 => ?_)
    · refine L_yld (Y_move rfl) rfl rfl rfl ?_
      refine L_yld (Y_move rfl) rfl rfl rfl ?_
      refine L_yld (Y_add rfl rfl (by first | omega | (simp; omega)) (by first | omega | (simp; omega))) rfl rfl rfl ?_
      refine L_yld (Y_lss rfl rfl) rfl rfl rfl ?_
      refine L_yld (Y_pick_t rfl rfl) rfl rfl rfl ?_
      refine L_nil ?_
      exact X_cut () (.cons (i := 45) (lkb rfl (by simp only [eq_true c9, true_and, and_true, false_and, and_false, true_or, or_true, false_or, or_false, not_true_eq_false, not_false_eq_true, decide_true, decide_false, Bool.true_eq_false, Bool.false_eq_true, eq_self, Bool.decide_eq_true])) (.cons (i := 7) rfl (.cons (i := 6) rfl (.cons (i := 8) rfl (.nil _))))) rfl
    · refine L_skip rfl rfl rfl ?_
      refine L_skip rfl rfl rfl ?_
      refine L_skip rfl rfl rfl ?_
      refine L_skip rfl rfl rfl ?_
      refine L_yld (Y_pick_f rfl rfl) rfl rfl rfl ?_
      refine L_nil ?_
      exact X_cut () (.cons (i := 45) (lkb rfl (by simp only [eq_false c9, true_and, and_true, false_and, and_false, true_or, or_true, false_or, or_false, not_true_eq_false, not_false_eq_true, decide_true, decide_false, Bool.true_eq_false, Bool.false_eq_true, eq_self, Bool.decide_eq_true])) (.cons (i := 7) rfl (.cons (i := 6) rfl (.cons (i := 8) rfl (.nil _))))) rfl
  rintro _ h7 rfl
  show W _ _ _ _ _ [(45, .bool (decide ((((rrest (Lib.repeatL [107] (a % 300).toNat) (Lib.repeatL [118] (b % 2000).toNat) + e : Nat) : Int) < (psz (rrest (Lib.repeatL [107] (a % 300).toNat) (Lib.repeatL [118] (b % 2000).toNat)) : Int)) ∧ (((rrest (Lib.repeatL [107] (a % 300).toNat) (Lib.repeatL [118] (b % 2000).toNat) + e : Nat) : Int) < (((((Lib.repeatL [107] (a % 300).toNat).length : Int) + ((Lib.repeatL [118] (b % 2000).toNat).length : Int)) + 3) + 10))))), (7, .int .i64 ((psz (rrest (Lib.repeatL [107] (a % 300).toNat) (Lib.repeatL [118] (b % 2000).toNat)) : Int))), (6, .int .i64 ((((Lib.repeatL [107] (a % 300).toNat).length : Int) + ((Lib.repeatL [118] (b % 2000).toNat).length : Int)) + 3)), (8, .int .i64 (((rrest (Lib.repeatL [107] (a % 300).toNat) (Lib.repeatL [118] (b % 2000).toNat) + e : Nat) : Int)))] _
  refine W_splitd rfl (fun hlt => ?_) (fun hlt => ?_)
  · refine W_skip ?_
    refine X_then ?_
    refine W_sub _ (.cons (i := 7) rfl (.cons (i := 6) rfl (.cons (i := 8) rfl (.nil _)))) ?_
    have hil := itoa_len (n := ((rrest (Lib.repeatL [107] (a % 300).toNat) (Lib.repeatL [118] (b % 2000).toNat) + e : Nat) : Int)) (by omega)
    rw [Int.toNat_natCast] at hil
    have hn20 := nDigits_le (u := rrest (Lib.repeatL [107] (a % 300).toNat) (Lib.repeatL [118] (b % 2000).toNat) + e) (by omega)
    have hne := hp.2.2.2 e (by omega) (by omega)
    refine W_seq ?_
    refine W_block ?_
    refine W_seq ?_
    refine W_region ?_
    refine L_yld (Y_move rfl) rfl rfl rfl ?_
    refine L_call (E_call (by kernel_rfl) rfl) (strconv_Itoa _ (hN.ext ((((((hx1.trans hx2).trans hn3.ext).then' hp5.only (by simp) (Nat.le_trans hx1.size hx2.size)).trans hx7).trans hx8).trans hx)) ((rrest (Lib.repeatL [107] (a % 300).toNat) (Lib.repeatL [118] (b % 2000).toNat) + e : Nat) : Int) (by first | first | omega | (simp; omega) | rfl | (simp <;> omega))) rfl rfl rfl ?_
    rintro _ h8 ⟨rfl, hx10⟩
    refine L_yld (Y_slen Tryd.underlying9 rfl) rfl rfl rfl ?_
    refine L_yld (Y_move rfl) rfl rfl rfl ?_
    refine L_yld (Y_add rfl rfl (by first | omega | (simp; omega)) (by first | omega | (simp; omega))) rfl rfl rfl ?_
    refine L_yld (Y_move rfl) rfl rfl rfl ?_
    refine L_yld (Y_eql rfl rfl) rfl rfl rfl ?_
    refine L_nil ?_
    refine X_then ?_
    refine W_sub _ (.cons (i := 54) rfl (.cons (i := 7) rfl (.cons (i := 6) rfl (.cons (i := 8) rfl (.nil _))))) ?_
    refine W_known false rfl (by exact decide_eq_false (by omega)) ?_
    refine W_skip ?_
    refine X_block ?_
    refine X_then ?_
    refine W_sub _ (.cons (i := 7) rfl (.cons (i := 6) rfl (.cons (i := 8) rfl (.nil _)))) ?_
    refine W_region ?_
    refine L_yld (Y_move rfl) rfl rfl rfl ?_
    refine L_yld (Y_add rfl rfl (by first | omega | (simp; omega)) (by first | omega | (simp; omega))) rfl rfl rfl ?_
    refine L_yld (Y_assign rfl) rfl rfl rfl ?_
    refine L_nil ?_
    refine X_loop (e + 1) (.cons (i := 7) rfl (.cons (i := 6) rfl (.cons (i := 8) (lki rfl (by omega)) (.nil _)))) ?_ ?_
    · exact ⟨by omega, (hx.trans hx10)⟩
    · (try dsimp only)
      omega
  · refine W_exit ?_
    refine X_then_exit ?_
    refine X_then_exit ?_
    refine X_block_hit ?_
    refine X_then ?_
    refine W_sub _ (.nil _) ?_
    refine W_seq ?_
    refine W_region ?_
    refine L_call (E_call (by kernel_rfl) rfl) (law09_alive _ (hK.ext ((((((hx1.trans hx2).trans hn3.ext).then' hp5.only (by simp) (Nat.le_trans hx1.size hx2.size)).trans hx7).trans hx8).trans hx)) (hN.ext ((((((hx1.trans hx2).trans hn3.ext).then' hp5.only (by simp) (Nat.le_trans hx1.size hx2.size)).trans hx7).trans hx8).trans hx)) (hE.ext ((((((hx1.trans hx2).trans hn3.ext).then' hp5.only (by simp) (Nat.le_trans hx1.size hx2.size)).trans hx7).trans hx8).trans hx))) rfl rfl rfl ?_
    rintro _ h9 ⟨rfl, hx11⟩
    refine L_yld (Y_assign rfl) rfl rfl rfl ?_
    refine L_nil ?_
    refine X_then ?_
    refine W_sub _ (.cons (i := 4) rfl (.nil _)) ?_
    refine W_ret ?_
    refine X_ret1 rfl rfl ?_
    exact ⟨rfl, (((((((hx1.trans hx2).trans hn3.ext).then' hp5.only (by simp) (Nat.le_trans hx1.size hx2.size)).trans hx7).trans hx8).trans hx).trans hx11)⟩

set_option maxRecDepth 100000 in
theorem paxrecFormatMatchesReference (h : Heap) (hK : GlbK h) (hN : GlbN h) (hE : GlbE h) (w : Value) (l : List Rec) (hl : Rows recS h w l) (hn : l.length ≤ 140737488355328) (hs : ∀ r ∈ l, r.key.length ≤ 140737488355328 ∧ r.val.length ≤ 140737488355328) : Cal Tryd.prog 5 #[w] h (fun v h' => v = .bool true ∧ Ext h h') := by
  refine Cal_enter (args := [w]) Tryd.func5 rfl rfl rfl (fun σ => ?_)
  refine W_seq ?_
  refine W_region ?_
  refine L_yld (Y_assign rfl) rfl rfl rfl ?_
  refine L_nil ?_
  refine X_then ?_
  refine W_seq ?_
  refine W_cut (S := Unit) (fun _ => [(16, .bool (decide ((50 < (l.length : Int)) ∨ (200000 < (rsum l : Int))))), (2, .bool false), (0, w)]) (fun _ h' => Ext h h') ?_ ?_
  · refine W_region ?_
    refine L_yld (Y_move rfl) rfl rfl rfl ?_
    refine L_yld (Y_lenr Tryd.underlying22 rfl hl) rfl rfl rfl ?_
    refine L_yld (Y_gtr rfl rfl) rfl rfl rfl ?_
    refine L_yld (Y_move rfl) rfl rfl rfl ?_
    refine L_splitd (d := 12) rfl (fun c1 => ?_) (fun c1 => ?_)
    · refine L_skip rfl rfl rfl ?_
      refine L_skip rfl rfl rfl ?_
      refine L_skip rfl rfl rfl ?_
      refine L_yld (Y_pick_t rfl rfl) rfl rfl rfl ?_
      refine L_nil ?_
      exact X_cut () (.cons (i := 16) (lkb rfl (by simp only [eq_true c1, true_and, and_true, false_and, and_false, true_or, or_true, false_or, or_false, not_true_eq_false, not_false_eq_true, decide_true, decide_false, Bool.true_eq_false, Bool.false_eq_true, eq_self, Bool.decide_eq_true])) (.cons (i := 2) rfl (.cons (i := 0) rfl (.nil _)))) (Ext.refl _)
    · refine L_yld (Y_move rfl) rfl rfl rfl ?_
      refine L_call (E_call (by kernel_rfl) rfl) (law09_size _ w l hl (by first | omega | rfl | (simp <;> omega)) (by first | omega | rfl | (simp <;> omega))) rfl rfl rfl ?_
      rintro _ h1 ⟨rfl, hx2⟩
      refine L_yld (Y_gtr rfl rfl) rfl rfl rfl ?_
      refine L_yld (Y_pick_f rfl rfl) rfl rfl rfl ?_
      refine L_nil ?_
      exact X_cut () (.cons (i := 16) (lkb rfl (by simp only [eq_false c1, true_and, and_true, false_and, and_false, true_or, or_true, false_or, or_false, not_true_eq_false, not_false_eq_true, decide_true, decide_false, Bool.true_eq_false, Bool.false_eq_true, eq_self, Bool.decide_eq_true])) (.cons (i := 2) rfl (.cons (i := 0) rfl (.nil _)))) hx2
  rintro _ h2 hx3
  show W _ _ _ _ _ [(16, .bool (decide ((50 < (l.length : Int)) ∨ (200000 < (rsum l : Int))))), (2, .bool false), (0, w)] _
  refine W_splitd rfl (fun g => ?_) (fun g => ?_)
  · refine W_seq ?_
    refine W_region ?_
    refine L_call (E_call (by kernel_rfl) rfl) (law09_alive _ (hK.ext hx3) (hN.ext hx3) (hE.ext hx3)) rfl rfl rfl ?_
    rintro _ h3 ⟨rfl, hx4⟩
    refine L_yld (Y_assign rfl) rfl rfl rfl ?_
    refine L_nil ?_
    refine X_then ?_
    refine W_sub _ (.cons (i := 2) rfl (.cons (i := 0) rfl (.nil _))) ?_
    refine W_ret ?_
    refine X_then_ret ?_
    refine X_ret1 rfl rfl ?_
    exact ⟨rfl, (hx3.trans hx4)⟩
  · refine W_skip ?_
    refine X_then ?_
    refine W_sub _ (.cons (i := 2) rfl (.cons (i := 0) rfl (.nil _))) ?_
    refine W_seq ?_
    refine W_region ?_
    refine L_yld (Y_move rfl) rfl rfl rfl ?_
    refine L_call (E_call (by kernel_rfl) rfl) (rec_Format _ (hK.ext hx3) (hN.ext hx3) (hE.ext hx3) w l (hl.ext hx3) (by first | omega | rfl | (simp <;> omega)) (by first | omega | rfl | (simp <;> omega))) rfl rfl rfl ?_
    rintro _ h4 ⟨s05, rfl, hr06, hx7⟩
    refine L_yld (Y_move rfl) rfl rfl rfl ?_
    refine L_yld (Y_extract (v := s05) rfl rfl) rfl rfl rfl ?_
    refine L_yld (Y_extract (v := .int .i64 (rlerr none l)) rfl rfl) rfl rfl rfl ?_
    refine L_yld (Y_assign rfl) rfl rfl rfl ?_
    refine L_yld (Y_assign rfl) rfl rfl rfl ?_
    refine L_nil ?_
    refine X_then ?_
    refine W_sub _ (.cons (i := 4) rfl (.cons (i := 3) rfl (.cons (i := 2) rfl (.cons (i := 0) rfl (.nil _))))) ?_
    refine W_seq ?_
    refine W_region ?_
    refine L_yld (Y_move rfl) rfl rfl rfl ?_
    refine L_call (E_call (by kernel_rfl) rfl) (ref09_Format _ w l (hl.ext (hx3.trans hx7)) (by first | omega | rfl | (simp <;> omega)) (by first | omega | rfl | (simp <;> omega))) rfl rfl rfl ?_
    rintro _ h5 ⟨s08, rfl, hr09, hx10⟩
    refine L_yld (Y_move rfl) rfl rfl rfl ?_
    refine L_yld (Y_extract (v := s08) rfl rfl) rfl rfl rfl ?_
    refine L_yld (Y_extract (v := .int .i64 (rlerr none l)) rfl rfl) rfl rfl rfl ?_
    refine L_yld (Y_assign rfl) rfl rfl rfl ?_
    refine L_yld (Y_assign rfl) rfl rfl rfl ?_
    refine L_nil ?_
    refine X_then ?_
    refine W_sub _ (.cons (i := 6) rfl (.cons (i := 5) rfl (.cons (i := 4) rfl (.cons (i := 3) rfl (.cons (i := 2) rfl (.cons (i := 0) rfl (.nil _))))))) ?_
    refine W_seq ?_
    refine W_seq ?_
    refine W_region ?_
    refine L_yld (Y_move rfl) rfl rfl rfl ?_
    refine L_yld (Y_lenr Tryd.underlying22 rfl (hl.ext ((hx3.trans hx7).trans hx10))) rfl rfl rfl ?_
    refine L_yld (Y_move rfl) rfl rfl rfl ?_
    refine L_nil ?_
    refine X_then ?_
    refine W_sub _ (.cons (i := 30) rfl (.cons (i := 29) rfl (.cons (i := 28) rfl (.cons (i := 6) rfl (.cons (i := 5) rfl (.cons (i := 4) rfl (.cons (i := 3) rfl (.cons (i := 2) rfl (.nil _))))))))) ?_
    refine W_block ?_
    refine W_loop (S := Nat) (fun i => [(29, .int .i64 ((l.length : Int))), (28, w), (6, .int .i64 (rlerr none l)), (5, s08), (4, .int .i64 (rlerr none l)), (3, s05), (30, .int .i64 ((i : Int)))]) (fun i h' => i ≤ l.length ∧ Ext h5 h') (fun i => l.length - i) 0 (.cons (i := 29) rfl (.cons (i := 28) rfl (.cons (i := 6) rfl (.cons (i := 5) rfl (.cons (i := 4) rfl (.cons (i := 3) rfl (.cons (i := 30) rfl (.nil _)))))))) ?_ ?_
    · exact ⟨by omega, Ext.refl _⟩
    rintro i h6 ⟨hi, hx⟩
    show W _ _ _ _ _ [(29, .int .i64 ((l.length : Int))), (28, w), (6, .int .i64 (rlerr none l)), (5, s08), (4, .int .i64 (rlerr none l)), (3, s05), (30, .int .i64 ((i : Int)))] _
    refine W_seq ?_
    refine W_region ?_
    refine L_yld (Y_lss rfl rfl) rfl rfl rfl ?_
    refine L_nil ?_
    refine X_then ?_
    refine W_seq ?_
    refine W_splitd rfl (fun hlt => ?_) (fun hlt => ?_)
    · refine W_skip ?_
      refine X_then ?_
      refine W_sub _ (.cons (i := 29) rfl (.cons (i := 28) rfl (.cons (i := 6) rfl (.cons (i := 5) rfl (.cons (i := 4) rfl (.cons (i := 3) rfl (.cons (i := 30) rfl (.nil _)))))))) ?_
      refine W_seq ?_
      refine W_block ?_
      refine W_seq ?_
      refine W_region ?_
      refine L_yld (Y_idxr Tryd.underlying22 (show _ = some 2 by kernel_rfl) rfl rfl rfl (hl.ext (((hx3.trans hx7).trans hx10).trans hx)) (by omega) (by omega)) rfl rfl rfl ?_
      refine L_yld (Y_ldrA0 (k := ((i : Int)).toNat) (us := [str ((at_rec l ((i : Int)).toNat).key), str ((at_rec l ((i : Int)).toNat).val)]) Tryd.underlying30 rfl (show _ = some 2 by kernel_rfl) rfl rfl (hl.ext (((hx3.trans hx7).trans hx10).trans hx)) (by omega) rfl) rfl rfl rfl ?_
      refine L_mks (M_alloc (u := .agg #[str [], str []]) (by kernel_rfl)) rfl rfl rfl ?_
      rintro _ h7 ⟨rfl, hn11⟩
      have hk12 : Blk h7 h6.size [str [], str []] := hn11.blk
      refine L_dos (D_store (us := [str ((at_rec l ((i : Int)).toNat).key), str ((at_rec l ((i : Int)).toNat).val)]) (show _ = some 2 by kernel_rfl) rfl rfl rfl (by simp [Value.oneCell']) hk12 (by simp)) rfl rfl ?_
      rintro h8 hp13
      have hk14 : Blk h8 h6.size [str ((at_rec l ((i : Int)).toNat).key), str ((at_rec l ((i : Int)).toNat).val)] := hp13.blk
      refine L_nil ?_
      refine X_then ?_
      refine W_sub _ (.cons (i := 8) rfl (.cons (i := 29) rfl (.cons (i := 28) rfl (.cons (i := 6) rfl (.cons (i := 5) rfl (.cons (i := 4) rfl (.cons (i := 3) rfl (.cons (i := 30) rfl (.nil _))))))))) ?_
      have hmm := hs _ (at_rec_mem (l := l) (i := i) (by omega))
      refine W_seq ?_
      refine W_pers [(8, .pointer (some ⟨h6.size, 0, none⟩)), (29, .int .i64 ((l.length : Int))), (28, w), (6, .int .i64 (rlerr none l)), (5, s08), (4, .int .i64 (rlerr none l)), (3, s05), (30, .int .i64 ((i : Int)))] (.cons (i := 8) rfl (.cons (i := 29) rfl (.cons (i := 28) rfl (.cons (i := 6) rfl (.cons (i := 5) rfl (.cons (i := 4) rfl (.cons (i := 3) rfl (.cons (i := 30) rfl (.nil _))))))))) (by kernel_rfl) ?_
      refine LP_op 0 (fun _ vv => .agg #[str ((at_rec l ((i : Int)).toNat).key), str ((at_rec l ((i : Int)).toNat).val)] = vv) [] rfl rfl (by kernel_rfl) (fun _ _ _ _ p => p) ?_ ?_
      · intro h9 hx15
        refine Needs_nil ?_
        refine Stp_yld (Y_ldbox (us := [str ((at_rec l ((i : Int)).toNat).key), str ((at_rec l ((i : Int)).toNat).val)]) Tryd.underlying30 rfl (show _ = some 2 by kernel_rfl) rfl (hk14.ext hx15) rfl) rfl ?_
        exact rfl
      refine LP_op 1 (fun _ vv => .int .i64 (rerr ((at_rec l ((i : Int)).toNat).key) ((at_rec l ((i : Int)).toNat).val)) = vv) [(0, 34)] rfl rfl (by kernel_rfl) (fun _ _ _ _ p => p) ?_ ?_
      · intro h10 hx16
        rintro _ rfl
        refine Needs_nil ?_
        refine Stp_call (E_call (by kernel_rfl) rfl) (rec_Check _ (hK.ext ((((((hx3.trans hx7).trans hx10).trans hx).trans hn11.ext).then' hp13.only (by simp) (Nat.le_trans (Nat.le_trans (Nat.le_trans hx3.size hx7.size) hx10.size) hx.size)).trans hx16)) (hE.ext ((((((hx3.trans hx7).trans hx10).trans hx).trans hn11.ext).then' hp13.only (by simp) (Nat.le_trans (Nat.le_trans (Nat.le_trans hx3.size hx7.size) hx10.size) hx.size)).trans hx16)) ((at_rec l ((i : Int)).toNat).key) ((at_rec l ((i : Int)).toNat).val) (by first | omega | rfl | (simp <;> omega))) rfl ?_
        rintro _ h11 ⟨rfl, hx17⟩
        exact ⟨hx17, rfl⟩
      refine LP_op 2 (fun _ vv => .agg #[str ((at_rec l ((i : Int)).toNat).key), str ((at_rec l ((i : Int)).toNat).val)] = vv) [] rfl rfl (by kernel_rfl) (fun _ _ _ _ p => p) ?_ ?_
      · intro h12 hx18
        refine Needs_nil ?_
        refine Stp_yld (Y_ldbox (us := [str ((at_rec l ((i : Int)).toNat).key), str ((at_rec l ((i : Int)).toNat).val)]) Tryd.underlying30 rfl (show _ = some 2 by kernel_rfl) rfl (hk14.ext hx18) rfl) rfl ?_
        exact rfl
      refine LP_op 3 (fun _ vv => .int .i64 (rerr ((at_rec l ((i : Int)).toNat).key) ((at_rec l ((i : Int)).toNat).val)) = vv) [(2, 36)] rfl rfl (by kernel_rfl) (fun _ _ _ _ p => p) ?_ ?_
      · intro h13 hx19
        rintro _ rfl
        refine Needs_nil ?_
        refine Stp_call (E_call (by kernel_rfl) rfl) (ref09_Check _ ((at_rec l ((i : Int)).toNat).key) ((at_rec l ((i : Int)).toNat).val) (by first | omega | rfl | (simp <;> omega))) rfl ?_
        rintro _ h14 ⟨rfl, hx20⟩
        exact ⟨hx20, rfl⟩
      refine LP_op 4 (fun _ vv => .bool (decide (¬ (rerr ((at_rec l ((i : Int)).toNat).key) ((at_rec l ((i : Int)).toNat).val)) = (rerr ((at_rec l ((i : Int)).toNat).key) ((at_rec l ((i : Int)).toNat).val)))) = vv) [(1, 35), (3, 37)] rfl rfl (by kernel_rfl) (fun _ _ _ _ p => p) ?_ ?_
      · intro h15 hx21
        rintro _ rfl
        rintro _ rfl
        refine Needs_nil ?_
        refine Stp_yld (Y_neq rfl rfl) rfl ?_
        exact rfl
      refine LP_op 5 (fun _ vv => .bool false = vv) [(4, 38)] rfl rfl (by kernel_rfl) (fun _ _ _ _ p => p) ?_ ?_
      · intro h16 hx22
        rintro _ rfl
        refine Needs_nil ?_
        refine Stp_yld (Y_move rfl) rfl ?_
        exact (congrArg Value.bool (decide_eq_false (by simp))).symm
      refine LP_op 6 (fun _ vv => .agg #[str ((at_rec l ((i : Int)).toNat).key), str ((at_rec l ((i : Int)).toNat).val)] = vv) [(5, 39)] rfl rfl (by kernel_rfl) (fun _ _ _ _ p => p) ?_ ?_
      · intro h17 hx23
        rintro _ rfl
        refine Needs_nil ?_
        refine Stp_yld (Y_ldbox (us := [str ((at_rec l ((i : Int)).toNat).key), str ((at_rec l ((i : Int)).toNat).val)]) Tryd.underlying30 rfl (show _ = some 2 by kernel_rfl) rfl (hk14.ext hx23) rfl) rfl ?_
        exact rfl
      refine LP_op 7 (fun _ vv => .int .i64 ((psz (rrest ((at_rec l ((i : Int)).toNat).key) ((at_rec l ((i : Int)).toNat).val)) : Int)) = vv) [(6, 40), (5, 39)] rfl rfl (by kernel_rfl) (fun _ _ _ _ p => p) ?_ ?_
      · intro h18 hx24
        rintro _ rfl
        rintro _ rfl
        refine Needs_nil ?_
        refine Stp_call (E_call (by kernel_rfl) rfl) (rec_Size _ (hN.ext ((((((hx3.trans hx7).trans hx10).trans hx).trans hn11.ext).then' hp13.only (by simp) (Nat.le_trans (Nat.le_trans (Nat.le_trans hx3.size hx7.size) hx10.size) hx.size)).trans hx24)) ((at_rec l ((i : Int)).toNat).key) ((at_rec l ((i : Int)).toNat).val) (by first | omega | rfl | (simp <;> omega)) (by first | omega | rfl | (simp <;> omega))) rfl ?_
        rintro _ h19 ⟨rfl, hx25⟩
        exact ⟨hx25, rfl⟩
      refine LP_op 8 (fun _ vv => .agg #[str ((at_rec l ((i : Int)).toNat).key), str ((at_rec l ((i : Int)).toNat).val)] = vv) [(5, 39)] rfl rfl (by kernel_rfl) (fun _ _ _ _ p => p) ?_ ?_
      · intro h20 hx26
        rintro _ rfl
        refine Needs_nil ?_
        refine Stp_yld (Y_ldbox (us := [str ((at_rec l ((i : Int)).toNat).key), str ((at_rec l ((i : Int)).toNat).val)]) Tryd.underlying30 rfl (show _ = some 2 by kernel_rfl) rfl (hk14.ext hx26) rfl) rfl ?_
        exact rfl
      refine LP_op 9 (fun _ vv => .int .i64 ((psz (rrest ((at_rec l ((i : Int)).toNat).key) ((at_rec l ((i : Int)).toNat).val)) : Int)) = vv) [(8, 42), (5, 39)] rfl rfl (by kernel_rfl) (fun _ _ _ _ p => p) ?_ ?_
      · intro h21 hx27
        rintro _ rfl
        rintro _ rfl
        refine Needs_nil ?_
        refine Stp_call (E_call (by kernel_rfl) rfl) (ref09_Size _ ((at_rec l ((i : Int)).toNat).key) ((at_rec l ((i : Int)).toNat).val) (by first | omega | rfl | (simp <;> omega)) (by first | omega | rfl | (simp <;> omega))) rfl ?_
        rintro _ h22 ⟨rfl, hx28⟩
        exact ⟨hx28, rfl⟩
      refine LP_op 10 (fun _ vv => .bool (decide (¬ (psz (rrest ((at_rec l ((i : Int)).toNat).key) ((at_rec l ((i : Int)).toNat).val)) : Int) = (psz (rrest ((at_rec l ((i : Int)).toNat).key) ((at_rec l ((i : Int)).toNat).val)) : Int))) = vv) [(7, 41), (9, 43), (5, 39)] rfl rfl (by kernel_rfl) (fun _ _ _ _ p => p) ?_ ?_
      · intro h23 hx29
        rintro _ rfl
        rintro _ rfl
        rintro _ rfl
        refine Needs_nil ?_
        refine Stp_yld (Y_neq rfl rfl) rfl ?_
        exact rfl
      refine LP_op 11 (fun _ vv => .bool (decide (¬ (psz (rrest ((at_rec l ((i : Int)).toNat).key) ((at_rec l ((i : Int)).toNat).val)) : Int) = (psz (rrest ((at_rec l ((i : Int)).toNat).key) ((at_rec l ((i : Int)).toNat).val)) : Int))) = vv) [(10, 44), (5, 39)] rfl rfl (by kernel_rfl) (fun _ _ _ _ p => p) ?_ ?_
      · intro h24 hx30
        rintro _ rfl
        rintro _ rfl
        refine Needs_nil ?_
        refine Stp_yld (Y_pick_f rfl rfl) rfl ?_
        exact rfl
      refine LP_end [(11, 45)] rfl (by kernel_rfl) rfl ?_
      intro h25 hx31
      rintro _ rfl
      refine Needs_nil ?_
      refine X_then ?_
      refine W_sub _ (.cons (i := 45) rfl (.cons (i := 29) rfl (.cons (i := 28) rfl (.cons (i := 6) rfl (.cons (i := 5) rfl (.cons (i := 4) rfl (.cons (i := 3) rfl (.cons (i := 30) rfl (.nil _))))))))) ?_
      refine W_known false rfl (by exact decide_eq_false (by simp)) ?_
      refine W_skip ?_
      refine X_block ?_
      refine X_then ?_
      refine W_sub _ (.cons (i := 29) rfl (.cons (i := 28) rfl (.cons (i := 6) rfl (.cons (i := 5) rfl (.cons (i := 4) rfl (.cons (i := 3) rfl (.cons (i := 30) rfl (.nil _)))))))) ?_
      refine W_region ?_
      refine L_yld (Y_add rfl rfl (by omega) (by omega)) rfl rfl rfl ?_
      refine L_yld (Y_move rfl) rfl rfl rfl ?_
      refine L_nil ?_
      refine X_loop (i + 1) (.cons (i := 29) rfl (.cons (i := 28) rfl (.cons (i := 6) rfl (.cons (i := 5) rfl (.cons (i := 4) rfl (.cons (i := 3) rfl (.cons (i := 30) rfl (.nil _)))))))) ?_ ?_
      · exact ⟨by omega, (((hx.trans hn11.ext).then' hp13.only (by simp) hx.size).trans hx31)⟩
      · (try dsimp only)
        omega
    · refine W_exit ?_
      refine X_then_exit ?_
      refine X_then_exit ?_
      refine X_block_hit ?_
      refine X_then ?_
      refine W_sub _ (.cons (i := 6) rfl (.cons (i := 5) rfl (.cons (i := 4) rfl (.cons (i := 3) rfl (.nil _))))) ?_
      refine W_seq ?_
      refine W_region ?_
      refine L_call (E_call (by kernel_rfl) rfl) (law09_alive _ (hK.ext (((hx3.trans hx7).trans hx10).trans hx)) (hN.ext (((hx3.trans hx7).trans hx10).trans hx)) (hE.ext (((hx3.trans hx7).trans hx10).trans hx))) rfl rfl rfl ?_
      rintro _ h26 ⟨rfl, hx32⟩
      refine L_yld (Y_move rfl) rfl rfl rfl ?_
      refine L_yld (Y_move rfl) rfl rfl rfl ?_
      refine L_yld (Y_bytes_str Tryd.underlying23 Tryd.underlying5 Tryd.underlying9 rfl (hr06.bytes.ext ((hx10.trans hx).trans hx32))) rfl rfl rfl ?_
      refine L_yld (Y_move rfl) rfl rfl rfl ?_
      refine L_yld (Y_bytes_str Tryd.underlying23 Tryd.underlying5 Tryd.underlying9 rfl (hr09.bytes.ext (hx.trans hx32))) rfl rfl rfl ?_
      refine L_yld (Y_seql rfl rfl) rfl rfl rfl ?_
      refine L_yld (Y_pick_t rfl rfl) rfl rfl rfl ?_
      refine L_yld (Y_move rfl) rfl rfl rfl ?_
      refine L_known (d := 55) true rfl (by exact decide_eq_true (by rfl)) ?_
      refine L_yld (Y_move rfl) rfl rfl rfl ?_
      refine L_yld (Y_move rfl) rfl rfl rfl ?_
      refine L_yld (Y_eql rfl rfl) rfl rfl rfl ?_
      refine L_yld (Y_pick_t rfl rfl) rfl rfl rfl ?_
      refine L_yld (Y_move rfl) rfl rfl rfl ?_
      refine L_known (d := 60) true rfl (by exact decide_eq_true (by rfl)) ?_
      refine L_call (E_call (by kernel_rfl) rfl) (rec_Keys _ (hK.ext ((((hx3.trans hx7).trans hx10).trans hx).trans hx32))) rfl rfl rfl ?_
      rintro s033 h27 ⟨_, rfl, hr034, hx35⟩
      refine L_call (E_call (by kernel_rfl) rfl) (ref09_Keys _) rfl rfl rfl ?_
      rintro s036 h28 ⟨_, rfl, hr037, hx38⟩
      refine L_call (E_call (by kernel_rfl) rfl) (slices_EqualS _ s033 rkeys (hr034.ext hx38) s036 rkeys hr037 (by first | omega | rfl | (simp <;> omega))) rfl rfl rfl ?_
      rintro _ h28 ⟨rfl, rfl⟩
      refine L_yld (Y_pick_t rfl rfl) rfl rfl rfl ?_
      refine L_yld (Y_assign rfl) rfl rfl rfl ?_
      refine L_nil ?_
      refine X_then ?_
      refine W_sub _ (.cons (i := 2) rfl (.nil _)) ?_
      refine W_ret ?_
      refine X_ret1 rfl rfl ?_
      exact ⟨by simp, ((((((hx3.trans hx7).trans hx10).trans hx).trans hx32).trans hx35).trans hx38)⟩
end Go.Xp
