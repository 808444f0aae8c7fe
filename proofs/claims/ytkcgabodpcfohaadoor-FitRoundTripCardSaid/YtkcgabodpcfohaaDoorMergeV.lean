/- Layer 10 (fit): Merge inverts Plan; the header and the records are valid. -/
import Derived.Test.YtkcgabodpcfohaaDoorMergeW
import Derived.Test.YtkcgabodpcfohaaDoorUstC
set_option linter.unusedSimpArgs false
set_option linter.unusedVariables false
set_option linter.unusedSectionVars false
namespace Go.Xp
open Go.Proofs

theorem comps_mem : ∀ {p : List UInt8} {x : UInt8}, x ∈ p → x ≠ 47 → ∃ c ∈ comps p, x ∈ c
  | a :: l, x, h, hx => by
    unfold comps
    by_cases ha : a = 47
    · rw [if_pos ha]
      rcases List.mem_cons.1 h with e | h
      · exact absurd (e.trans ha) hx
      · obtain ⟨c, h1, h2⟩ := comps_mem h hx
        exact ⟨c, List.mem_cons_of_mem _ h1, h2⟩
    · rw [if_neg ha]
      cases hc : comps l with
      | nil => exact absurd hc (comps_ne l)
      | cons y ys =>
        simp only
        rcases List.mem_cons.1 h with e | h
        · exact ⟨_, List.mem_cons_self, by rw [e]; exact List.mem_cons_self⟩
        · obtain ⟨c, h1, h2⟩ := comps_mem h hx
          rw [hc] at h1
          rcases List.mem_cons.1 h1 with e | h1
          · exact ⟨_, List.mem_cons_self, by rw [← e]; exact List.mem_cons_of_mem _ h2⟩
          · exact ⟨c, List.mem_cons_of_mem _ h1, h2⟩
theorem pcheck_valid {p : List UInt8} (h : pcheck p = 0) : p.length ≤ 65536 ∧ p ≠ [] ∧ (0 : UInt8) ∉ p := by
  unfold pcheck at h
  split at h
  · cases h
  · split at h
    · rename_i h1 h2
      refine ⟨by omega, ?_, ?_⟩
      · rintro rfl; revert h2; decide
      · intro h0
        obtain ⟨c, h3, h4⟩ := comps_mem h0 (by decide)
        have := List.all_eq_true.1 h2 c h3
        unfold okc at this
        simp only [Bool.and_eq_true, Bool.not_eq_true', List.contains_eq_mem, decide_eq_false_iff_not] at this
        exact this.2 h4
    · cases h
theorem ftarget_valid {k : Int} {tg : List UInt8} (h : ftarget k tg = 0) : (0 : UInt8) ∉ tg ∧ tg.length ≤ 65536 := by
  unfold ftarget at h
  split at h
  · have := pcheck_valid h; exact ⟨this.2.2, this.1⟩
  · split at h
    · rw [rerr_path (by simp) (by simp)] at h
      split at h
      · cases h
      · split at h
        · cases h
        · rename_i h1 h2; exact ⟨fun e => h2 (.inr e), by omega⟩
    · split at h
      · cases h
      · rename_i h1; have := Classical.not_not.1 h1; rw [this]; simp
theorem fcheck_mode {k m z : Int} {p tg : List UInt8} (h : fcheck k p m tg z = 0) : 0 ≤ m ∧ m ≤ 4095 := by
  unfold fcheck at h
  split at h
  · cases h
  · split at h
    · rename_i h1; exact absurd h h1
    · split at h
      · cases h
      · omega
theorem rerr_plain {k v : List UInt8} (h : k ∈ [[108, 105, 110, 107, 112, 97, 116, 104], [112, 97, 116, 104], [115, 105, 122, 101]]) (h2 : ¬ k = [115, 105, 122, 101]) (h3 : v.length ≤ 65536) (h4 : v ≠ []) (h5 : (0 : UInt8) ∉ v) : rerr k v = 0 := by
  rw [rerr_path h h2, if_neg (by omega), if_neg (fun e => e.elim h4 h5)]
theorem rlerr_plan {k m z : Int} {p tg : List UInt8} (e : fcheck k p m tg z = 0) : rlerr none (fR (fcheck k p m tg z) p tg z) = 0 := by
  rw [fR, if_pos e]
  have hz := fcheck_size e
  have hp := pcheck_valid (fcheck_path e)
  have ht := ftarget_valid (fcheck_target e)
  have e2 : rerr [112, 97, 116, 104] p = 0 := rerr_plain (by simp) (by decide) hp.1 hp.2.1 hp.2.2
  have e3 : rerr [115, 105, 122, 101] (Lib.decDigits z.toNat) = 0 := by unfold rerr; rw [if_pos rfl]; exact nerr_dec (by omega)
  have o1 : sle [112, 97, 116, 104] [108, 105, 110, 107, 112, 97, 116, 104] = false := by decide
  have o2 : sle [115, 105, 122, 101] [108, 105, 110, 107, 112, 97, 116, 104] = false := by decide
  have o3 : sle [115, 105, 122, 101] [112, 97, 116, 104] = false := by decide
  unfold frecs
  by_cases h1 : 100 < tg.length
  · have e1 : rerr [108, 105, 110, 107, 112, 97, 116, 104] tg = 0 := rerr_plain (by simp) (by decide) ht.2 (fun e => by rw [e] at h1; simp at h1) ht.1
    by_cases h2 : sok p = true <;> by_cases h3 : 8589934591 < z <;> simp [h1, h2, h3, rlerr, e1, e2, e3, ordBad, o1, o2, o3]
  · by_cases h2 : sok p = true <;> by_cases h3 : 8589934591 < z <;> simp [h1, h2, h3, rlerr, e2, e3, ordBad, o1, o2, o3]
theorem snam_sub {p : List UInt8} {x : UInt8} (h : x ∈ snam p) : x ∈ p := by
  unfold snam at h
  split at h
  · exact h
  · split at h
    · cases h
    · exact List.mem_of_mem_drop h
theorem spre_sub {p : List UInt8} {x : UInt8} (h : x ∈ spre p) : x ∈ p := by
  unfold spre at h
  split at h
  · cases h
  · split at h
    · cases h
    · exact List.mem_of_mem_take h
theorem uknown_ftyp {k : Int} (h : 0 ≤ k ∧ k ≤ 3) : uknown (ftyp k) = true := by
  obtain ⟨i, rfl⟩ := Int.eq_ofNat_of_zero_le h.1
  have hi : i < 4 := by omega
  have key : ∀ i : Fin 4, uknown (ftyp ((i.val : Nat) : Int)) = true := by decide
  exact key ⟨i, hi⟩
theorem cerr_ok {s : List UInt8} {w : Nat} (h0 : (0 : UInt8) ∉ s) (hl : s.length ≤ w) (hw : 1 ≤ w ∧ w ≤ 256) : cerr s (w : Int) = 0 := by
  unfold cerr; rw [if_neg (by omega), if_neg h0, if_neg (by omega)]
theorem ucheck_plan {k m z : Int} {p tg : List UInt8} (e : fcheck k p m tg z = 0) :
    ucheck (fT (fcheck k p m tg z) k) (fN (fcheck k p m tg z) p) (fP (fcheck k p m tg z) p) (fL (fcheck k p m tg z) tg) (fM (fcheck k p m tg z) m) (fZ (fcheck k p m tg z) z) = 0 := by
  have hz := fcheck_size e
  have hm := fcheck_mode e
  have hp := pcheck_valid (fcheck_path e)
  have ht := ftarget_valid (fcheck_target e)
  rw [fT, if_pos e, fN, if_pos e, fP, if_pos e, fL, if_pos e, fM, if_pos e, fZ, if_pos e]
  have hs : (snam p).length ≤ 100 ∧ (spre p).length ≤ 155 := by
    by_cases h : sok p = true
    · have := join_split h; exact ⟨this.2.1, this.2.2.1⟩
    · have := sok_nil (by simpa using h : sok p = false); rw [this.1, this.2]; simp
  have c1 : cerr (snam p) 100 = 0 := cerr_ok (w := 100) (fun h => hp.2.2 (snam_sub h)) hs.1 (by decide)
  have c2 : cerr (spre p) 155 = 0 := cerr_ok (w := 155) (fun h => hp.2.2 (spre_sub h)) hs.2 (by decide)
  have c3 : cerr (if 100 < tg.length then [] else tg) 100 = 0 := by
    by_cases h : 100 < tg.length
    · rw [if_pos h]; decide
    · rw [if_neg h]; exact cerr_ok (w := 100) ht.1 (by omega) (by decide)
  unfold ucheck
  rw [if_neg (by rw [uknown_ftyp (fcheck_kind e)]; decide), if_neg (by rw [c1]; decide), if_neg (by rw [c3]; decide), if_neg (by rw [c2]; decide), if_neg (by omega), if_neg (by split <;> omega)]

set_option maxRecDepth 100000 in
theorem fitRoundTrip (h : Heap) (hG : Glb h) (hK : GlbK h) (hN : GlbN h) (hE : GlbE h) (hT : GlbT h) (hS : GlbS h) (k : Int) (p : List UInt8) (m : Int) (tg : List UInt8) (z : Int) (hk : -9223372036854775808 ≤ k ∧ k ≤ 9223372036854775807) (hp : p.length ≤ 140737488355328) (hm : -9223372036854775808 ≤ m ∧ m ≤ 9223372036854775807) (ht : tg.length ≤ 140737488355328) (hz : -9223372036854775808 ≤ z ∧ z ≤ 9223372036854775807) : Cal Tryd.prog 15 #[.agg #[.int .i64 (k), str p, .int .i64 (m), str tg, .int .i64 (z)]] h (fun v h' => v = .bool true ∧ Ext h h') := by
  refine Cal_enter (args := [.agg #[.int .i64 (k), str p, .int .i64 (m), str tg, .int .i64 (z)]]) Tryd.func15 rfl rfl rfl (fun σ => ?_)
  refine W_seq ?_
  refine W_region ?_
  refine L_mks (M_box rfl) rfl rfl rfl ?_
  rintro _ h1 ⟨rfl, hn1⟩
  have hk2 : Blk h1 h.size [.int .i64 (k), str p, .int .i64 (m), str tg, .int .i64 (z)] := hn1.blk
  refine L_yld (Y_assign rfl) rfl rfl rfl ?_
  refine L_nil ?_
  refine X_then ?_
  refine W_sub _ (.cons (i := 2) rfl (.cons (i := 1) rfl (.nil _))) ?_
  refine W_seq ?_
  refine W_seq ?_
  refine W_region ?_
  refine L_yld (Y_ldbox (us := [.int .i64 (k), str p, .int .i64 (m), str tg, .int .i64 (z)]) Tryd.underlying46 rfl (show _ = some 5 by kernel_rfl) rfl hk2 rfl) rfl rfl rfl ?_
  refine L_call (E_call (by kernel_rfl) rfl) (law10_TooLarge _ k p m tg z (by first | omega | rfl | (simp <;> omega)) (by first | omega | rfl | (simp <;> omega))) rfl rfl rfl ?_
  rintro _ h2 ⟨rfl, hx3⟩
  refine L_yld (Y_gtr rfl rfl) rfl rfl rfl ?_
  refine L_nil ?_
  refine X_then ?_
  refine W_sub _ (.cons (i := 12) rfl (.cons (i := 2) rfl (.cons (i := 1) rfl (.nil _)))) ?_
  refine W_splitd rfl (fun g => ?_) (fun g => ?_)
  · refine W_seq ?_
    refine W_region ?_
    refine L_call (E_call (by kernel_rfl) rfl) (law10_alive _ (hK.ext (hn1.ext.trans hx3)) (hN.ext (hn1.ext.trans hx3)) (hE.ext (hn1.ext.trans hx3)) (hT.ext (hn1.ext.trans hx3))) rfl rfl rfl ?_
    rintro _ h3 ⟨rfl, hx4⟩
    refine L_yld (Y_assign rfl) rfl rfl rfl ?_
    refine L_nil ?_
    refine X_then ?_
    refine W_sub _ (.cons (i := 2) rfl (.cons (i := 1) rfl (.nil _))) ?_
    refine W_ret ?_
    refine X_then_ret ?_
    refine X_ret1 rfl rfl ?_
    exact ⟨rfl, ((hn1.ext.trans hx3).trans hx4)⟩
  · refine W_skip ?_
    refine X_then ?_
    refine W_sub _ (.cons (i := 2) rfl (.cons (i := 1) rfl (.nil _))) ?_
    have hsum : p.length + tg.length ≤ 70000 := by apply Decidable.byContradiction; intro h9; exact g (by rw [if_pos (by omega)]; decide)
    refine W_seq ?_
    refine W_region ?_
    refine L_yld (Y_ldbox (us := [.int .i64 (k), str p, .int .i64 (m), str tg, .int .i64 (z)]) Tryd.underlying46 rfl (show _ = some 5 by kernel_rfl) rfl (hk2.ext hx3) rfl) rfl rfl rfl ?_
    refine L_call (E_call (by kernel_rfl) rfl) (fit_Plan _ (hK.ext (hn1.ext.trans hx3)) (hN.ext (hn1.ext.trans hx3)) (hE.ext (hn1.ext.trans hx3)) (hT.ext (hn1.ext.trans hx3)) k p m tg z (by first | omega | rfl | (simp <;> omega)) (by first | omega | rfl | (simp <;> omega)) (by first | omega | rfl | (simp <;> omega))) rfl rfl rfl ?_
    rintro _ h4 ⟨s15, rfl, hr16, hx7⟩
    refine L_yld (Y_move rfl) rfl rfl rfl ?_
    refine L_yld (Y_extract (v := .agg #[.int .u8 (fT (fcheck k p m tg z) k), str (fN (fcheck k p m tg z) p), str (fP (fcheck k p m tg z) p), str (fL (fcheck k p m tg z) tg), .int .i64 (fM (fcheck k p m tg z) m), .int .i64 (fZ (fcheck k p m tg z) z)]) rfl rfl) rfl rfl rfl ?_
    refine L_yld (Y_extract (v := s15) rfl rfl) rfl rfl rfl ?_
    refine L_yld (Y_extract (v := .int .i64 (fcheck k p m tg z)) rfl rfl) rfl rfl rfl ?_
    refine L_mks (M_alloc (u := .agg #[.int .u8 0, str [], str [], str [], .int .i64 0, .int .i64 0]) (by kernel_rfl)) rfl rfl rfl ?_
    rintro _ h5 ⟨rfl, hn8⟩
    have hk9 : Blk h5 h4.size [.int .u8 0, str [], str [], str [], .int .i64 0, .int .i64 0] := hn8.blk
    refine L_dos (D_store (us := [.int .u8 (fT (fcheck k p m tg z) k), str (fN (fcheck k p m tg z) p), str (fP (fcheck k p m tg z) p), str (fL (fcheck k p m tg z) tg), .int .i64 (fM (fcheck k p m tg z) m), .int .i64 (fZ (fcheck k p m tg z) z)]) (show _ = some 6 by kernel_rfl) rfl rfl rfl (by simp [Value.oneCell']) hk9 (by simp)) rfl rfl ?_
    rintro h6 hp10
    have hk11 : Blk h6 h4.size [.int .u8 (fT (fcheck k p m tg z) k), str (fN (fcheck k p m tg z) p), str (fP (fcheck k p m tg z) p), str (fL (fcheck k p m tg z) tg), .int .i64 (fM (fcheck k p m tg z) m), .int .i64 (fZ (fcheck k p m tg z) z)] := hp10.blk
    refine L_yld (Y_assign rfl) rfl rfl rfl ?_
    refine L_yld (Y_assign rfl) rfl rfl rfl ?_
    refine L_nil ?_
    refine X_then ?_
    refine W_sub _ (.cons (i := 5) rfl (.cons (i := 4) rfl (.cons (i := 3) rfl (.cons (i := 2) rfl (.cons (i := 1) rfl (.nil _)))))) ?_
    refine W_seq ?_
    refine W_seq ?_
    refine W_region ?_
    refine L_yld (Y_move rfl) rfl rfl rfl ?_
    refine L_yld (Y_neq rfl rfl) rfl rfl rfl ?_
    refine L_nil ?_
    refine X_then ?_
    refine W_sub _ (.cons (i := 21) rfl (.cons (i := 4) rfl (.cons (i := 3) rfl (.cons (i := 2) rfl (.cons (i := 1) rfl (.nil _)))))) ?_
    refine W_splitd rfl (fun x => ?_) (fun x => ?_)
    · refine W_seq ?_
      refine W_region ?_
      refine L_call (E_call (by kernel_rfl) rfl) (law10_alive _ (hK.ext ((((hn1.ext.trans hx3).trans hx7).trans hn8.ext).then' hp10.only (by simp) (Nat.le_trans (Nat.le_trans hn1.ext.size hx3.size) hx7.size))) (hN.ext ((((hn1.ext.trans hx3).trans hx7).trans hn8.ext).then' hp10.only (by simp) (Nat.le_trans (Nat.le_trans hn1.ext.size hx3.size) hx7.size))) (hE.ext ((((hn1.ext.trans hx3).trans hx7).trans hn8.ext).then' hp10.only (by simp) (Nat.le_trans (Nat.le_trans hn1.ext.size hx3.size) hx7.size))) (hT.ext ((((hn1.ext.trans hx3).trans hx7).trans hn8.ext).then' hp10.only (by simp) (Nat.le_trans (Nat.le_trans hn1.ext.size hx3.size) hx7.size)))) rfl rfl rfl ?_
      rintro _ h7 ⟨rfl, hx12⟩
      refine L_yld (Y_move rfl) rfl rfl rfl ?_
      refine L_yld (Y_ldbox (us := [.int .u8 (fT (fcheck k p m tg z) k), str (fN (fcheck k p m tg z) p), str (fP (fcheck k p m tg z) p), str (fL (fcheck k p m tg z) tg), .int .i64 (fM (fcheck k p m tg z) m), .int .i64 (fZ (fcheck k p m tg z) z)]) Tryd.underlying48 rfl (show _ = some 6 by kernel_rfl) rfl (hk11.ext hx12) rfl) rfl rfl rfl ?_
      refine L_yld (Y_build (v := .agg #[.int .u8 0, str [], str [], str [], .int .i64 0, .int .i64 0]) (pv := []) (evp (is := []) (os := []) (vs := []) rfl rfl) (fun _ => by kernel_rfl)) rfl rfl rfl ?_
      refine L_yld (Y_steql (xs := [.int .u8 (fT (fcheck k p m tg z) k), str (fN (fcheck k p m tg z) p), str (fP (fcheck k p m tg z) p), str (fL (fcheck k p m tg z) tg), .int .i64 (fM (fcheck k p m tg z) m), .int .i64 (fZ (fcheck k p m tg z) z)]) (ys := [.int .u8 0, str [], str [], str [], .int .i64 0, .int .i64 0]) (r := decide ((fT (fcheck k p m tg z) k) = (0 : Int) ∧ (fN (fcheck k p m tg z) p) = [] ∧ (fP (fcheck k p m tg z) p) = [] ∧ (fL (fcheck k p m tg z) tg) = [] ∧ (fM (fcheck k p m tg z) m) = (0 : Int) ∧ (fZ (fcheck k p m tg z) z) = (0 : Int))) (by kernel_rfl) (by kernel_rfl) (by kernel_rfl) rfl rfl (steq (ks := [.i .u8, .s, .s, .s, .i .i64, .i .i64]) (by kernel_rfl) (by simp [eqks, eqk]))) rfl rfl rfl ?_
      refine L_yld (Y_pick_t rfl rfl) rfl rfl rfl ?_
      refine L_yld (Y_move rfl) rfl rfl rfl ?_
      refine L_known (d := 28) true rfl (by exact decide_eq_true (by exact ⟨if_neg x, if_neg x, if_neg x, if_neg x, if_neg x, if_neg x⟩)) ?_
      refine L_yld (Y_move rfl) rfl rfl rfl ?_
      refine L_yld (Y_lenr Tryd.underlying22 rfl (hr16.rows.ext ((hn8.ext.then' hp10.only (by simp) (Nat.le_refl _)).trans hx12))) rfl rfl rfl ?_
      refine L_yld (Y_eql rfl rfl) rfl rfl rfl ?_
      refine L_yld (Y_pick_t rfl rfl) rfl rfl rfl ?_
      refine L_yld (Y_assign rfl) rfl rfl rfl ?_
      refine L_nil ?_
      refine X_then ?_
      refine W_sub _ (.cons (i := 2) rfl (.cons (i := 4) rfl (.cons (i := 3) rfl (.cons (i := 1) rfl (.nil _))))) ?_
      refine W_ret ?_
      refine X_then_ret ?_
      refine X_ret1 rfl rfl ?_
      exact ⟨congrArg Value.bool (decide_eq_true (by rw [fR, if_neg x]; rfl)), (((((hn1.ext.trans hx3).trans hx7).trans hn8.ext).then' hp10.only (by simp) (Nat.le_trans (Nat.le_trans hn1.ext.size hx3.size) hx7.size)).trans hx12)⟩
    · refine W_skip ?_
      refine X_then ?_
      refine W_sub _ (.cons (i := 4) rfl (.cons (i := 3) rfl (.cons (i := 2) rfl (.cons (i := 1) rfl (.nil _))))) ?_
      have e0 : fcheck k p m tg z = 0 := Classical.not_not.1 x
      have hR3 := fR_len (fcheck k p m tg z) p tg z
      have hRg := fR_good e0 (by omega) (by omega)
      have hfT := fT_range (fcheck k p m tg z) k
      have hfNP := fNP_len (c := fcheck k p m tg z) (p := p) (by omega)
      have hfL := fL_len (c := fcheck k p m tg z) (tg := tg) (by omega)
      have hfZ := fZ_range e0
      have hmr := mres_plan e0
      refine W_seq ?_
      refine W_region ?_
      refine L_yld (Y_ldbox (us := [.int .u8 (fT (fcheck k p m tg z) k), str (fN (fcheck k p m tg z) p), str (fP (fcheck k p m tg z) p), str (fL (fcheck k p m tg z) tg), .int .i64 (fM (fcheck k p m tg z) m), .int .i64 (fZ (fcheck k p m tg z) z)]) Tryd.underlying48 rfl (show _ = some 6 by kernel_rfl) rfl hk11 rfl) rfl rfl rfl ?_
      refine L_yld (Y_move rfl) rfl rfl rfl ?_
      refine L_call (E_call (by kernel_rfl) rfl) (fit_Merge _ (hK.ext ((((hn1.ext.trans hx3).trans hx7).trans hn8.ext).then' hp10.only (by simp) (Nat.le_trans (Nat.le_trans hn1.ext.size hx3.size) hx7.size))) (hN.ext ((((hn1.ext.trans hx3).trans hx7).trans hn8.ext).then' hp10.only (by simp) (Nat.le_trans (Nat.le_trans hn1.ext.size hx3.size) hx7.size))) (hE.ext ((((hn1.ext.trans hx3).trans hx7).trans hn8.ext).then' hp10.only (by simp) (Nat.le_trans (Nat.le_trans hn1.ext.size hx3.size) hx7.size))) (hT.ext ((((hn1.ext.trans hx3).trans hx7).trans hn8.ext).then' hp10.only (by simp) (Nat.le_trans (Nat.le_trans hn1.ext.size hx3.size) hx7.size))) (hS.ext ((((hn1.ext.trans hx3).trans hx7).trans hn8.ext).then' hp10.only (by simp) (Nat.le_trans (Nat.le_trans hn1.ext.size hx3.size) hx7.size))) (fT (fcheck k p m tg z) k) (fN (fcheck k p m tg z) p) (fP (fcheck k p m tg z) p) (fL (fcheck k p m tg z) tg) (fM (fcheck k p m tg z) m) (fZ (fcheck k p m tg z) z) s15 (fR (fcheck k p m tg z) p tg z) (hr16.rows.ext (hn8.ext.then' hp10.only (by simp) (Nat.le_refl _))) hfT hfNP hfL hfZ (by omega) hRg) rfl rfl rfl ?_
      rintro _ h8 ⟨rfl, hx13⟩
      refine L_yld (Y_move rfl) rfl rfl rfl ?_
      refine L_yld (Y_extract (v := .agg #[.int .i64 (oI (mres (fT (fcheck k p m tg z) k) (fN (fcheck k p m tg z) p) (fP (fcheck k p m tg z) p) (fL (fcheck k p m tg z) tg) (fM (fcheck k p m tg z) m) (fZ (fcheck k p m tg z) z) (fR (fcheck k p m tg z) p tg z)) (mkind (fT (fcheck k p m tg z) k))), str (oP (mres (fT (fcheck k p m tg z) k) (fN (fcheck k p m tg z) p) (fP (fcheck k p m tg z) p) (fL (fcheck k p m tg z) tg) (fM (fcheck k p m tg z) m) (fZ (fcheck k p m tg z) z) (fR (fcheck k p m tg z) p tg z))), .int .i64 (oI (mres (fT (fcheck k p m tg z) k) (fN (fcheck k p m tg z) p) (fP (fcheck k p m tg z) p) (fL (fcheck k p m tg z) tg) (fM (fcheck k p m tg z) m) (fZ (fcheck k p m tg z) z) (fR (fcheck k p m tg z) p tg z)) (fM (fcheck k p m tg z) m)), str (oT (mres (fT (fcheck k p m tg z) k) (fN (fcheck k p m tg z) p) (fP (fcheck k p m tg z) p) (fL (fcheck k p m tg z) tg) (fM (fcheck k p m tg z) m) (fZ (fcheck k p m tg z) z) (fR (fcheck k p m tg z) p tg z))), .int .i64 (oZ (mres (fT (fcheck k p m tg z) k) (fN (fcheck k p m tg z) p) (fP (fcheck k p m tg z) p) (fL (fcheck k p m tg z) tg) (fM (fcheck k p m tg z) m) (fZ (fcheck k p m tg z) z) (fR (fcheck k p m tg z) p tg z)))]) rfl rfl) rfl rfl rfl ?_
      refine L_yld (Y_extract (v := .int .i64 (oE (mres (fT (fcheck k p m tg z) k) (fN (fcheck k p m tg z) p) (fP (fcheck k p m tg z) p) (fL (fcheck k p m tg z) tg) (fM (fcheck k p m tg z) m) (fZ (fcheck k p m tg z) z) (fR (fcheck k p m tg z) p tg z)) (fR (fcheck k p m tg z) p tg z))) rfl rfl) rfl rfl rfl ?_
      refine L_mks (M_alloc (u := .agg #[.int .i64 0, str [], .int .i64 0, str [], .int .i64 0]) (by kernel_rfl)) rfl rfl rfl ?_
      rintro _ h9 ⟨rfl, hn14⟩
      have hk15 : Blk h9 h8.size [.int .i64 0, str [], .int .i64 0, str [], .int .i64 0] := hn14.blk
      refine L_dos (D_store (us := [.int .i64 (oI (mres (fT (fcheck k p m tg z) k) (fN (fcheck k p m tg z) p) (fP (fcheck k p m tg z) p) (fL (fcheck k p m tg z) tg) (fM (fcheck k p m tg z) m) (fZ (fcheck k p m tg z) z) (fR (fcheck k p m tg z) p tg z)) (mkind (fT (fcheck k p m tg z) k))), str (oP (mres (fT (fcheck k p m tg z) k) (fN (fcheck k p m tg z) p) (fP (fcheck k p m tg z) p) (fL (fcheck k p m tg z) tg) (fM (fcheck k p m tg z) m) (fZ (fcheck k p m tg z) z) (fR (fcheck k p m tg z) p tg z))), .int .i64 (oI (mres (fT (fcheck k p m tg z) k) (fN (fcheck k p m tg z) p) (fP (fcheck k p m tg z) p) (fL (fcheck k p m tg z) tg) (fM (fcheck k p m tg z) m) (fZ (fcheck k p m tg z) z) (fR (fcheck k p m tg z) p tg z)) (fM (fcheck k p m tg z) m)), str (oT (mres (fT (fcheck k p m tg z) k) (fN (fcheck k p m tg z) p) (fP (fcheck k p m tg z) p) (fL (fcheck k p m tg z) tg) (fM (fcheck k p m tg z) m) (fZ (fcheck k p m tg z) z) (fR (fcheck k p m tg z) p tg z))), .int .i64 (oZ (mres (fT (fcheck k p m tg z) k) (fN (fcheck k p m tg z) p) (fP (fcheck k p m tg z) p) (fL (fcheck k p m tg z) tg) (fM (fcheck k p m tg z) m) (fZ (fcheck k p m tg z) z) (fR (fcheck k p m tg z) p tg z)))]) (show _ = some 5 by kernel_rfl) rfl rfl rfl (by simp [Value.oneCell']) hk15 (by simp)) rfl rfl ?_
      rintro h10 hp16
      have hk17 : Blk h10 h8.size [.int .i64 (oI (mres (fT (fcheck k p m tg z) k) (fN (fcheck k p m tg z) p) (fP (fcheck k p m tg z) p) (fL (fcheck k p m tg z) tg) (fM (fcheck k p m tg z) m) (fZ (fcheck k p m tg z) z) (fR (fcheck k p m tg z) p tg z)) (mkind (fT (fcheck k p m tg z) k))), str (oP (mres (fT (fcheck k p m tg z) k) (fN (fcheck k p m tg z) p) (fP (fcheck k p m tg z) p) (fL (fcheck k p m tg z) tg) (fM (fcheck k p m tg z) m) (fZ (fcheck k p m tg z) z) (fR (fcheck k p m tg z) p tg z))), .int .i64 (oI (mres (fT (fcheck k p m tg z) k) (fN (fcheck k p m tg z) p) (fP (fcheck k p m tg z) p) (fL (fcheck k p m tg z) tg) (fM (fcheck k p m tg z) m) (fZ (fcheck k p m tg z) z) (fR (fcheck k p m tg z) p tg z)) (fM (fcheck k p m tg z) m)), str (oT (mres (fT (fcheck k p m tg z) k) (fN (fcheck k p m tg z) p) (fP (fcheck k p m tg z) p) (fL (fcheck k p m tg z) tg) (fM (fcheck k p m tg z) m) (fZ (fcheck k p m tg z) z) (fR (fcheck k p m tg z) p tg z))), .int .i64 (oZ (mres (fT (fcheck k p m tg z) k) (fN (fcheck k p m tg z) p) (fP (fcheck k p m tg z) p) (fL (fcheck k p m tg z) tg) (fM (fcheck k p m tg z) m) (fZ (fcheck k p m tg z) z) (fR (fcheck k p m tg z) p tg z)))] := hp16.blk
      refine L_yld (Y_assign rfl) rfl rfl rfl ?_
      refine L_nil ?_
      refine X_then ?_
      refine W_sub _ (.cons (i := 7) rfl (.cons (i := 6) rfl (.cons (i := 4) rfl (.cons (i := 3) rfl (.cons (i := 2) rfl (.cons (i := 1) rfl (.nil _))))))) ?_
      refine W_seq ?_
      refine W_region ?_
      refine L_yld (Y_move rfl) rfl rfl rfl ?_
      refine L_call (E_call (by kernel_rfl) rfl) (rec_Format _ (hK.ext (((((((hn1.ext.trans hx3).trans hx7).trans hn8.ext).then' hp10.only (by simp) (Nat.le_trans (Nat.le_trans hn1.ext.size hx3.size) hx7.size)).trans hx13).trans hn14.ext).then' hp16.only (by simp) (Nat.le_trans (Nat.le_trans (Nat.le_trans (Nat.le_trans (Nat.le_trans hn1.ext.size hx3.size) hx7.size) hn8.ext.size) hp10.only.size) hx13.size))) (hN.ext (((((((hn1.ext.trans hx3).trans hx7).trans hn8.ext).then' hp10.only (by simp) (Nat.le_trans (Nat.le_trans hn1.ext.size hx3.size) hx7.size)).trans hx13).trans hn14.ext).then' hp16.only (by simp) (Nat.le_trans (Nat.le_trans (Nat.le_trans (Nat.le_trans (Nat.le_trans hn1.ext.size hx3.size) hx7.size) hn8.ext.size) hp10.only.size) hx13.size))) (hE.ext (((((((hn1.ext.trans hx3).trans hx7).trans hn8.ext).then' hp10.only (by simp) (Nat.le_trans (Nat.le_trans hn1.ext.size hx3.size) hx7.size)).trans hx13).trans hn14.ext).then' hp16.only (by simp) (Nat.le_trans (Nat.le_trans (Nat.le_trans (Nat.le_trans (Nat.le_trans hn1.ext.size hx3.size) hx7.size) hn8.ext.size) hp10.only.size) hx13.size))) s15 (fR (fcheck k p m tg z) p tg z) (hr16.rows.ext ((((hn8.ext.then' hp10.only (by simp) (Nat.le_refl _)).trans hx13).trans hn14.ext).then' hp16.only (by simp) (Nat.le_trans (Nat.le_trans hn8.ext.size hp10.only.size) hx13.size))) (by omega) hRg) rfl rfl rfl ?_
      rintro _ h11 ⟨s018, rfl, hr019, hx20⟩
      refine L_yld (Y_move rfl) rfl rfl rfl ?_
      refine L_yld (Y_extract (v := s018) rfl rfl) rfl rfl rfl ?_
      refine L_yld (Y_extract (v := .int .i64 (rlerr none (fR (fcheck k p m tg z) p tg z))) rfl rfl) rfl rfl rfl ?_
      refine L_yld (Y_assign rfl) rfl rfl rfl ?_
      refine L_yld (Y_assign rfl) rfl rfl rfl ?_
      refine L_nil ?_
      refine X_then ?_
      refine W_sub _ (.cons (i := 9) rfl (.cons (i := 7) rfl (.cons (i := 6) rfl (.cons (i := 3) rfl (.cons (i := 2) rfl (.cons (i := 1) rfl (.nil _))))))) ?_
      refine W_seq ?_
      refine W_region ?_
      refine L_call (E_call (by kernel_rfl) rfl) (law10_alive _ (hK.ext ((((((((hn1.ext.trans hx3).trans hx7).trans hn8.ext).then' hp10.only (by simp) (Nat.le_trans (Nat.le_trans hn1.ext.size hx3.size) hx7.size)).trans hx13).trans hn14.ext).then' hp16.only (by simp) (Nat.le_trans (Nat.le_trans (Nat.le_trans (Nat.le_trans (Nat.le_trans hn1.ext.size hx3.size) hx7.size) hn8.ext.size) hp10.only.size) hx13.size)).trans hx20)) (hN.ext ((((((((hn1.ext.trans hx3).trans hx7).trans hn8.ext).then' hp10.only (by simp) (Nat.le_trans (Nat.le_trans hn1.ext.size hx3.size) hx7.size)).trans hx13).trans hn14.ext).then' hp16.only (by simp) (Nat.le_trans (Nat.le_trans (Nat.le_trans (Nat.le_trans (Nat.le_trans hn1.ext.size hx3.size) hx7.size) hn8.ext.size) hp10.only.size) hx13.size)).trans hx20)) (hE.ext ((((((((hn1.ext.trans hx3).trans hx7).trans hn8.ext).then' hp10.only (by simp) (Nat.le_trans (Nat.le_trans hn1.ext.size hx3.size) hx7.size)).trans hx13).trans hn14.ext).then' hp16.only (by simp) (Nat.le_trans (Nat.le_trans (Nat.le_trans (Nat.le_trans (Nat.le_trans hn1.ext.size hx3.size) hx7.size) hn8.ext.size) hp10.only.size) hx13.size)).trans hx20)) (hT.ext ((((((((hn1.ext.trans hx3).trans hx7).trans hn8.ext).then' hp10.only (by simp) (Nat.le_trans (Nat.le_trans hn1.ext.size hx3.size) hx7.size)).trans hx13).trans hn14.ext).then' hp16.only (by simp) (Nat.le_trans (Nat.le_trans (Nat.le_trans (Nat.le_trans (Nat.le_trans hn1.ext.size hx3.size) hx7.size) hn8.ext.size) hp10.only.size) hx13.size)).trans hx20))) rfl rfl rfl ?_
      rintro _ h12 ⟨rfl, hx21⟩
      refine L_yld (Y_move rfl) rfl rfl rfl ?_
      refine L_yld (Y_move rfl) rfl rfl rfl ?_
      refine L_yld (Y_eql rfl rfl) rfl rfl rfl ?_
      refine L_yld (Y_pick_t rfl rfl) rfl rfl rfl ?_
      refine L_yld (Y_move rfl) rfl rfl rfl ?_
      refine L_known (d := 49) true rfl (by exact decide_eq_true (by rw [hmr.1]; rfl)) ?_
      refine L_yld (Y_ldbox (us := [.int .i64 (oI (mres (fT (fcheck k p m tg z) k) (fN (fcheck k p m tg z) p) (fP (fcheck k p m tg z) p) (fL (fcheck k p m tg z) tg) (fM (fcheck k p m tg z) m) (fZ (fcheck k p m tg z) z) (fR (fcheck k p m tg z) p tg z)) (mkind (fT (fcheck k p m tg z) k))), str (oP (mres (fT (fcheck k p m tg z) k) (fN (fcheck k p m tg z) p) (fP (fcheck k p m tg z) p) (fL (fcheck k p m tg z) tg) (fM (fcheck k p m tg z) m) (fZ (fcheck k p m tg z) z) (fR (fcheck k p m tg z) p tg z))), .int .i64 (oI (mres (fT (fcheck k p m tg z) k) (fN (fcheck k p m tg z) p) (fP (fcheck k p m tg z) p) (fL (fcheck k p m tg z) tg) (fM (fcheck k p m tg z) m) (fZ (fcheck k p m tg z) z) (fR (fcheck k p m tg z) p tg z)) (fM (fcheck k p m tg z) m)), str (oT (mres (fT (fcheck k p m tg z) k) (fN (fcheck k p m tg z) p) (fP (fcheck k p m tg z) p) (fL (fcheck k p m tg z) tg) (fM (fcheck k p m tg z) m) (fZ (fcheck k p m tg z) z) (fR (fcheck k p m tg z) p tg z))), .int .i64 (oZ (mres (fT (fcheck k p m tg z) k) (fN (fcheck k p m tg z) p) (fP (fcheck k p m tg z) p) (fL (fcheck k p m tg z) tg) (fM (fcheck k p m tg z) m) (fZ (fcheck k p m tg z) z) (fR (fcheck k p m tg z) p tg z)))]) Tryd.underlying46 rfl (show _ = some 5 by kernel_rfl) rfl (hk17.ext (hx20.trans hx21)) rfl) rfl rfl rfl ?_
      refine L_yld (Y_ldbox (us := [.int .i64 (k), str p, .int .i64 (m), str tg, .int .i64 (z)]) Tryd.underlying46 rfl (show _ = some 5 by kernel_rfl) rfl (hk2.ext ((((((((hx3.trans hx7).trans hn8.ext).then' hp10.only (by simp) (Nat.le_trans hx3.size hx7.size)).trans hx13).trans hn14.ext).then' hp16.only (by simp) (Nat.le_trans (Nat.le_trans (Nat.le_trans (Nat.le_trans hx3.size hx7.size) hn8.ext.size) hp10.only.size) hx13.size)).trans hx20).trans hx21)) rfl) rfl rfl rfl ?_
      refine L_yld (Y_steql (xs := [.int .i64 (oI (mres (fT (fcheck k p m tg z) k) (fN (fcheck k p m tg z) p) (fP (fcheck k p m tg z) p) (fL (fcheck k p m tg z) tg) (fM (fcheck k p m tg z) m) (fZ (fcheck k p m tg z) z) (fR (fcheck k p m tg z) p tg z)) (mkind (fT (fcheck k p m tg z) k))), str (oP (mres (fT (fcheck k p m tg z) k) (fN (fcheck k p m tg z) p) (fP (fcheck k p m tg z) p) (fL (fcheck k p m tg z) tg) (fM (fcheck k p m tg z) m) (fZ (fcheck k p m tg z) z) (fR (fcheck k p m tg z) p tg z))), .int .i64 (oI (mres (fT (fcheck k p m tg z) k) (fN (fcheck k p m tg z) p) (fP (fcheck k p m tg z) p) (fL (fcheck k p m tg z) tg) (fM (fcheck k p m tg z) m) (fZ (fcheck k p m tg z) z) (fR (fcheck k p m tg z) p tg z)) (fM (fcheck k p m tg z) m)), str (oT (mres (fT (fcheck k p m tg z) k) (fN (fcheck k p m tg z) p) (fP (fcheck k p m tg z) p) (fL (fcheck k p m tg z) tg) (fM (fcheck k p m tg z) m) (fZ (fcheck k p m tg z) z) (fR (fcheck k p m tg z) p tg z))), .int .i64 (oZ (mres (fT (fcheck k p m tg z) k) (fN (fcheck k p m tg z) p) (fP (fcheck k p m tg z) p) (fL (fcheck k p m tg z) tg) (fM (fcheck k p m tg z) m) (fZ (fcheck k p m tg z) z) (fR (fcheck k p m tg z) p tg z)))]) (ys := [.int .i64 (k), str p, .int .i64 (m), str tg, .int .i64 (z)]) (r := decide ((oI (mres (fT (fcheck k p m tg z) k) (fN (fcheck k p m tg z) p) (fP (fcheck k p m tg z) p) (fL (fcheck k p m tg z) tg) (fM (fcheck k p m tg z) m) (fZ (fcheck k p m tg z) z) (fR (fcheck k p m tg z) p tg z)) (mkind (fT (fcheck k p m tg z) k))) = k ∧ (oP (mres (fT (fcheck k p m tg z) k) (fN (fcheck k p m tg z) p) (fP (fcheck k p m tg z) p) (fL (fcheck k p m tg z) tg) (fM (fcheck k p m tg z) m) (fZ (fcheck k p m tg z) z) (fR (fcheck k p m tg z) p tg z))) = p ∧ (oI (mres (fT (fcheck k p m tg z) k) (fN (fcheck k p m tg z) p) (fP (fcheck k p m tg z) p) (fL (fcheck k p m tg z) tg) (fM (fcheck k p m tg z) m) (fZ (fcheck k p m tg z) z) (fR (fcheck k p m tg z) p tg z)) (fM (fcheck k p m tg z) m)) = m ∧ (oT (mres (fT (fcheck k p m tg z) k) (fN (fcheck k p m tg z) p) (fP (fcheck k p m tg z) p) (fL (fcheck k p m tg z) tg) (fM (fcheck k p m tg z) m) (fZ (fcheck k p m tg z) z) (fR (fcheck k p m tg z) p tg z))) = tg ∧ (oZ (mres (fT (fcheck k p m tg z) k) (fN (fcheck k p m tg z) p) (fP (fcheck k p m tg z) p) (fL (fcheck k p m tg z) tg) (fM (fcheck k p m tg z) m) (fZ (fcheck k p m tg z) z) (fR (fcheck k p m tg z) p tg z))) = z)) (by kernel_rfl) (by kernel_rfl) (by kernel_rfl) rfl rfl (steq (ks := [.i .i64, .s, .i .i64, .s, .i .i64]) (by kernel_rfl) (by simp [eqks, eqk]))) rfl rfl rfl ?_
      refine L_yld (Y_pick_t rfl rfl) rfl rfl rfl ?_
      refine L_yld (Y_move rfl) rfl rfl rfl ?_
      refine L_known (d := 54) true rfl (by exact decide_eq_true (by rw [hmr.1, hmr.2]; exact ⟨rfl, rfl, by rw [fM, if_pos e0]; rfl, rfl, rfl⟩)) ?_
      refine L_yld (Y_move rfl) rfl rfl rfl ?_
      refine L_yld (Y_eql rfl rfl) rfl rfl rfl ?_
      refine L_yld (Y_pick_t rfl rfl) rfl rfl rfl ?_
      refine L_yld (Y_move rfl) rfl rfl rfl ?_
      refine L_known (d := 58) true rfl (by exact decide_eq_true (by exact rlerr_plan e0)) ?_
      refine L_yld (Y_ldbox (us := [.int .u8 (fT (fcheck k p m tg z) k), str (fN (fcheck k p m tg z) p), str (fP (fcheck k p m tg z) p), str (fL (fcheck k p m tg z) tg), .int .i64 (fM (fcheck k p m tg z) m), .int .i64 (fZ (fcheck k p m tg z) z)]) Tryd.underlying48 rfl (show _ = some 6 by kernel_rfl) rfl (hk11.ext ((((hx13.trans hn14.ext).then' hp16.only (by simp) hx13.size).trans hx20).trans hx21)) rfl) rfl rfl rfl ?_
      refine L_call (E_call (by kernel_rfl) rfl) (ustar_Check _ (hG.ext (((((((((hn1.ext.trans hx3).trans hx7).trans hn8.ext).then' hp10.only (by simp) (Nat.le_trans (Nat.le_trans hn1.ext.size hx3.size) hx7.size)).trans hx13).trans hn14.ext).then' hp16.only (by simp) (Nat.le_trans (Nat.le_trans (Nat.le_trans (Nat.le_trans (Nat.le_trans hn1.ext.size hx3.size) hx7.size) hn8.ext.size) hp10.only.size) hx13.size)).trans hx20).trans hx21)) (fT (fcheck k p m tg z) k) (fN (fcheck k p m tg z) p) (fP (fcheck k p m tg z) p) (fL (fcheck k p m tg z) tg) (fM (fcheck k p m tg z) m) (fZ (fcheck k p m tg z) z) hfT) rfl rfl rfl ?_
      rintro _ h13 ⟨rfl, hx22⟩
      refine L_yld (Y_eql rfl rfl) rfl rfl rfl ?_
      refine L_yld (Y_pick_t rfl rfl) rfl rfl rfl ?_
      refine L_yld (Y_assign rfl) rfl rfl rfl ?_
      refine L_nil ?_
      refine X_then ?_
      refine W_sub _ (.cons (i := 2) rfl (.nil _)) ?_
      refine W_ret ?_
      refine X_ret1 rfl rfl ?_
      exact ⟨congrArg Value.bool (decide_eq_true (ucheck_plan e0)), ((((((((((hn1.ext.trans hx3).trans hx7).trans hn8.ext).then' hp10.only (by simp) (Nat.le_trans (Nat.le_trans hn1.ext.size hx3.size) hx7.size)).trans hx13).trans hn14.ext).then' hp16.only (by simp) (Nat.le_trans (Nat.le_trans (Nat.le_trans (Nat.le_trans (Nat.le_trans hn1.ext.size hx3.size) hx7.size) hn8.ext.size) hp10.only.size) hx13.size)).trans hx20).trans hx21).trans hx22)⟩
end Go.Xp
