/- Layer 8 (pathname): the text of the laws that call Check. -/
import Derived.Test.YtlkkefiffjiliaaCheck
import Derived.Test.YtlkkefiffjiliaaPathLaw
set_option linter.unusedSimpArgs false
set_option linter.unusedVariables false
namespace Go.Xp
open Go.Proofs

set_option maxRecDepth 100000 in
theorem law08_Matches (h : Heap) (p : List UInt8) (hl : p.length ≤ 9223372036854775807) : Cal Try.prog 14 #[str p] h (fun v h' => v = .bool true ∧ Ext h h') := by
  refine Cal_enter (args := [str p]) Try.func14 rfl rfl rfl (fun σ => ?_)
  refine W_seq ?_
  refine W_region ?_
  refine L_yld (Y_assign rfl) rfl rfl rfl ?_
  refine L_nil ?_
  refine X_then ?_
  refine W_seq ?_
  refine W_seq ?_
  refine W_region ?_
  refine L_yld (Y_move rfl) rfl rfl rfl ?_
  refine L_yld (Y_slen Try.underlying9 rfl) rfl rfl rfl ?_
  refine L_yld (Y_gtr rfl rfl) rfl rfl rfl ?_
  refine L_nil ?_
  refine X_then ?_
  refine W_sub _ (.cons (i := 11) rfl (.cons (i := 2) rfl (.cons (i := 0) rfl (.nil _)))) ?_
  refine W_splitd rfl (fun g => ?_) (fun g => ?_)
  · refine W_seq ?_
    refine W_region ?_
    refine L_call (E_call (by kernel_rfl) rfl) (law08_alive _) rfl rfl rfl ?_
    rintro _ h1 ⟨rfl, hx1⟩
    refine L_yld (Y_assign rfl) rfl rfl rfl ?_
    refine L_nil ?_
    refine X_then ?_
    refine W_sub _ (.cons (i := 2) rfl (.cons (i := 0) rfl (.nil _))) ?_
    refine W_ret ?_
    refine X_then_ret ?_
    refine X_ret1 rfl rfl ?_
    exact ⟨by simp, hx1⟩
  · refine W_skip ?_
    refine X_then ?_
    refine W_sub _ (.cons (i := 2) rfl (.cons (i := 0) rfl (.nil _))) ?_
    refine W_seq ?_
    refine W_region ?_
    refine L_yld (Y_move rfl) rfl rfl rfl ?_
    refine L_call (E_call (by kernel_rfl) rfl) (pathname_Split _ p (by first | omega | rfl | (simp <;> omega))) rfl rfl rfl ?_
    rintro _ h ⟨rfl, rfl⟩
    refine L_yld (Y_move rfl) rfl rfl rfl ?_
    refine L_yld (Y_extract rfl rfl) rfl rfl rfl ?_
    refine L_yld (Y_extract rfl rfl) rfl rfl rfl ?_
    refine L_yld (Y_extract rfl rfl) rfl rfl rfl ?_
    refine L_yld (Y_assign rfl) rfl rfl rfl ?_
    refine L_yld (Y_assign rfl) rfl rfl rfl ?_
    refine L_yld (Y_assign rfl) rfl rfl rfl ?_
    refine L_nil ?_
    refine X_then ?_
    refine W_sub _ (.cons (i := 5) rfl (.cons (i := 4) rfl (.cons (i := 3) rfl (.cons (i := 2) rfl (.cons (i := 0) rfl (.nil _)))))) ?_
    refine W_seq ?_
    refine W_region ?_
    refine L_yld (Y_move rfl) rfl rfl rfl ?_
    refine L_call (E_call (by kernel_rfl) rfl) (ref08_Split _ p (by first | omega | rfl | (simp <;> omega))) rfl rfl rfl ?_
    rintro _ h ⟨rfl, rfl⟩
    refine L_yld (Y_move rfl) rfl rfl rfl ?_
    refine L_yld (Y_extract rfl rfl) rfl rfl rfl ?_
    refine L_yld (Y_extract rfl rfl) rfl rfl rfl ?_
    refine L_yld (Y_extract rfl rfl) rfl rfl rfl ?_
    refine L_yld (Y_assign rfl) rfl rfl rfl ?_
    refine L_yld (Y_assign rfl) rfl rfl rfl ?_
    refine L_yld (Y_assign rfl) rfl rfl rfl ?_
    refine L_nil ?_
    refine X_then ?_
    refine W_sub _ (.cons (i := 8) rfl (.cons (i := 7) rfl (.cons (i := 6) rfl (.cons (i := 5) rfl (.cons (i := 4) rfl (.cons (i := 3) rfl (.cons (i := 2) rfl (.cons (i := 0) rfl (.nil _))))))))) ?_
    refine W_seq ?_
    refine W_region ?_
    refine L_call (E_call (by kernel_rfl) rfl) (law08_alive _) rfl rfl rfl ?_
    rintro _ h2 ⟨rfl, hx2⟩
    refine L_yld (Y_move rfl) rfl rfl rfl ?_
    refine L_yld (Y_move rfl) rfl rfl rfl ?_
    refine L_call (E_call (by kernel_rfl) rfl) (pathname_Check _ p (by first | omega | rfl | (simp <;> omega))) rfl rfl rfl ?_
    rintro _ h3 ⟨rfl, hx3⟩
    refine L_yld (Y_move rfl) rfl rfl rfl ?_
    refine L_call (E_call (by kernel_rfl) rfl) (ref08_Check _ p) rfl rfl rfl ?_
    rintro _ h3 ⟨rfl, rfl⟩
    refine L_yld (Y_eql rfl rfl) rfl rfl rfl ?_
    refine L_yld (Y_pick_t rfl rfl) rfl rfl rfl ?_
    refine L_yld (Y_move rfl) rfl rfl rfl ?_
    refine L_known (d := 33) true rfl (by exact decide_eq_true (by rfl)) ?_
    refine L_yld (Y_move rfl) rfl rfl rfl ?_
    refine L_call (E_call (by kernel_rfl) rfl) (pathname_Parent _ p (by first | omega | rfl | (simp <;> omega))) rfl rfl rfl ?_
    rintro _ h3 ⟨rfl, rfl⟩
    refine L_yld (Y_move rfl) rfl rfl rfl ?_
    refine L_call (E_call (by kernel_rfl) rfl) (ref08_Parent _ p (by first | omega | rfl | (simp <;> omega))) rfl rfl rfl ?_
    rintro _ h3 ⟨rfl, rfl⟩
    refine L_yld (Y_seql rfl rfl) rfl rfl rfl ?_
    refine L_yld (Y_pick_t rfl rfl) rfl rfl rfl ?_
    refine L_yld (Y_move rfl) rfl rfl rfl ?_
    refine L_known (d := 40) true rfl (by exact decide_eq_true (by rfl)) ?_
    refine L_yld (Y_move rfl) rfl rfl rfl ?_
    refine L_call (E_call (by kernel_rfl) rfl) (pathname_Base _ p (by first | omega | rfl | (simp <;> omega))) rfl rfl rfl ?_
    rintro _ h3 ⟨rfl, rfl⟩
    refine L_yld (Y_move rfl) rfl rfl rfl ?_
    refine L_call (E_call (by kernel_rfl) rfl) (ref08_Base _ p (by first | omega | rfl | (simp <;> omega))) rfl rfl rfl ?_
    rintro _ h3 ⟨rfl, rfl⟩
    refine L_yld (Y_seql rfl rfl) rfl rfl rfl ?_
    refine L_yld (Y_pick_t rfl rfl) rfl rfl rfl ?_
    refine L_yld (Y_move rfl) rfl rfl rfl ?_
    refine L_known (d := 47) true rfl (by exact decide_eq_true (by rfl)) ?_
    refine L_yld (Y_move rfl) rfl rfl rfl ?_
    refine L_yld (Y_move rfl) rfl rfl rfl ?_
    refine L_yld (Y_seql rfl rfl) rfl rfl rfl ?_
    refine L_yld (Y_pick_t rfl rfl) rfl rfl rfl ?_
    refine L_yld (Y_move rfl) rfl rfl rfl ?_
    refine L_known (d := 52) true rfl (by exact decide_eq_true (by rfl)) ?_
    refine L_yld (Y_move rfl) rfl rfl rfl ?_
    refine L_yld (Y_move rfl) rfl rfl rfl ?_
    refine L_yld (Y_seql rfl rfl) rfl rfl rfl ?_
    refine L_yld (Y_pick_t rfl rfl) rfl rfl rfl ?_
    refine L_yld (Y_move rfl) rfl rfl rfl ?_
    refine L_known (d := 57) true rfl (by exact decide_eq_true (by rfl)) ?_
    refine L_yld (Y_move rfl) rfl rfl rfl ?_
    refine L_yld (Y_move rfl) rfl rfl rfl ?_
    refine L_yld (Y_beql Try.underlying4 rfl rfl) rfl rfl rfl ?_
    refine L_yld (Y_pick_t rfl rfl) rfl rfl rfl ?_
    refine L_yld (Y_assign rfl) rfl rfl rfl ?_
    refine L_nil ?_
    refine X_then ?_
    refine W_sub _ (.cons (i := 2) rfl (.nil _)) ?_
    refine W_ret ?_
    refine X_ret1 rfl rfl ?_
    exact ⟨by simp, (hx2.trans hx3)⟩

theorem comps_rep {c : UInt8} (hc : c ≠ 47) (k : Nat) : comps (List.replicate k c) = [List.replicate k c] :=
  comps_none (fun j hj h => by
    rw [byt_eq hj, List.getElem_replicate] at h
    exact hc (UInt8.toNat_inj.1 (Int.ofNat_inj.1 h)))

theorem pcheck_rep (k : Nat) (hk : 3 ≤ k) : pcheck (Lib.repeatL [97] k) = if 65536 < k then 7 else 0 := by
  obtain ⟨j, rfl⟩ : ∃ j, k = j + 3 := ⟨k - 3, by omega⟩
  have hl : (List.replicate (j + 3) (97 : UInt8)).length = j + 3 := by simp
  unfold pcheck
  rw [repeatL_one, hl, comps_rep (by decide), if_pos (show List.all [List.replicate (j + 3) (97 : UInt8)] okc = true by simp [okc, List.replicate_succ])]
theorem pcheck_long {p : List UInt8} (h : 65536 < p.length) : pcheck p = 7 := by unfold pcheck; rw [if_pos h]

set_option maxRecDepth 100000 in
set_option maxHeartbeats 1000000 in
theorem law08_Limit (h : Heap) (n : Int) (c : Int) (hn : 0 ≤ n ∧ n ≤ 255) (hc : 0 ≤ c ∧ c ≤ 255) : Cal Try.prog 13 #[.int .u8 (n), .int .u8 (c)] h (fun v h' => v = .bool true ∧ Ext h h') := by
  have hL : (Lib.repeatL [97] (65534 + n % 5).toNat).length = (65534 + n % 5).toNat := by rw [repeatL_one]; simp
  have hp := pcheck_rep (65534 + n % 5).toNat (by omega)
  refine Cal_enter (args := [.int .u8 (n), .int .u8 (c)]) Try.func13 rfl rfl rfl (fun σ => ?_)
  refine W_seq ?_
  refine W_region ?_
  refine L_yld (Y_assign rfl) rfl rfl rfl ?_
  refine L_nil ?_
  refine X_then ?_
  refine W_seq ?_
  refine W_region ?_
  refine L_yld (Y_move rfl) rfl rfl rfl ?_
  refine L_yld (Y_rem rfl rfl (by omega) (by omega)) rfl rfl rfl ?_
  refine L_yld (Y_convs Try.underlying5 Try.underlying3 rfl (wrap_i64 (by omega) (by omega))) rfl rfl rfl ?_
  refine L_yld (Y_add rfl rfl (by omega) (by omega)) rfl rfl rfl ?_
  refine L_call (E_call (by kernel_rfl) rfl) (strings_Repeat _ [97] (65534 + (n % 5)) (by first | omega | rfl | (simp <;> omega)) (by first | omega | rfl | (simp <;> omega))) rfl rfl rfl ?_
  rintro _ h1 ⟨rfl, hx1⟩
  refine L_yld (Y_assign rfl) rfl rfl rfl ?_
  refine L_nil ?_
  refine X_then ?_
  refine W_sub _ (.cons (i := 5) rfl (.cons (i := 4) rfl (.cons (i := 1) rfl (.nil _)))) ?_
  generalize hLL : Lib.repeatL [97] (65534 + n % 5).toNat = L at hL hp ⊢
  refine W_seq ?_
  refine W_region ?_
  refine L_yld (Y_move rfl) rfl rfl rfl ?_
  refine L_call (E_call (by kernel_rfl) rfl) (pathname_Check _ L (by first | omega | rfl | (simp <;> omega))) rfl rfl rfl ?_
  rintro _ h2 ⟨rfl, hx2⟩
  refine L_yld (Y_assign rfl) rfl rfl rfl ?_
  refine L_nil ?_
  refine X_then ?_
  refine W_sub _ (.cons (i := 6) rfl (.cons (i := 5) rfl (.cons (i := 4) rfl (.cons (i := 1) rfl (.nil _))))) ?_
  refine W_seq ?_
  refine W_seq ?_
  refine W_region ?_
  refine L_yld (Y_move rfl) rfl rfl rfl ?_
  refine L_yld (Y_slen Try.underlying9 rfl) rfl rfl rfl ?_
  refine L_yld (Y_leq rfl rfl) rfl rfl rfl ?_
  refine L_nil ?_
  refine X_then ?_
  refine W_sub _ (.cons (i := 17) rfl (.cons (i := 6) rfl (.cons (i := 5) rfl (.cons (i := 4) rfl (.cons (i := 1) rfl (.nil _)))))) ?_
  refine W_splitd rfl (fun g => ?_) (fun g => ?_)
  · refine W_seq ?_
    refine W_region ?_
    refine L_call (E_call (by kernel_rfl) rfl) (law08_alive _) rfl rfl rfl ?_
    rintro _ h3 ⟨rfl, hx3⟩
    refine L_yld (Y_move rfl) rfl rfl rfl ?_
    refine L_yld (Y_move rfl) rfl rfl rfl ?_
    refine L_yld (Y_eql rfl rfl) rfl rfl rfl ?_
    refine L_yld (Y_pick_t rfl rfl) rfl rfl rfl ?_
    refine L_yld (Y_assign rfl) rfl rfl rfl ?_
    refine L_nil ?_
    refine X_then ?_
    refine W_sub _ (.cons (i := 4) rfl (.cons (i := 6) rfl (.cons (i := 5) rfl (.cons (i := 1) rfl (.nil _))))) ?_
    refine W_ret ?_
    refine X_then_ret ?_
    refine X_ret1 rfl rfl ?_
    exact ⟨congrArg Value.bool (decide_eq_true (by rw [hp, if_neg (by omega)])), ((hx1.trans hx2).trans hx3)⟩
  · refine W_skip ?_
    refine X_then ?_
    refine W_sub _ (.cons (i := 6) rfl (.cons (i := 5) rfl (.cons (i := 4) rfl (.cons (i := 1) rfl (.nil _))))) ?_
    refine W_seq ?_
    refine W_held (fun h' => Ext h2 h') 10 rfl (by kernel_rfl) ?_
    refine LH_take (i := 0) rfl (fun h_ hI_ => Y_move rfl) rfl rfl rfl (by kernel_rfl) (by kernel_rfl) (by kernel_rfl) (fun _ _ _ => by rintro ⟨_, _, h_, _⟩; cases h_) (Ext.refl _) ?_
    refine LH_take (i := 1) rfl (fun h_ hI_ => Y_move rfl) rfl rfl rfl (by kernel_rfl) (by kernel_rfl) (by kernel_rfl) (fun _ _ _ => by rintro ⟨_, _, h_, _⟩; cases h_) (Ext.refl _) ?_
    refine LH_take (i := 2) rfl (fun h_ hI_ => Y_slen Try.underlying9 rfl) rfl rfl rfl (by kernel_rfl) (by kernel_rfl) (by kernel_rfl) (fun _ _ _ => by rintro ⟨_, _, h_, _⟩; cases h_) (Ext.refl _) ?_
    refine LH_take (i := 3) rfl (fun h_ hI_ => Y_sub rfl rfl (by omega) (by omega)) rfl rfl rfl (by kernel_rfl) (by kernel_rfl) (by kernel_rfl) (fun _ _ _ => by rintro ⟨_, _, h_, _⟩; cases h_) (Ext.refl _) ?_
    refine LH_take (i := 4) rfl (fun h_ hI_ => Y_sslice_h Try.underlying9 rfl rfl (by omega) (by omega)) rfl rfl rfl (by kernel_rfl) (by kernel_rfl) (by kernel_rfl) (fun _ _ _ => by rintro ⟨_, _, h_, _⟩; cases h_) (Ext.refl _) ?_
    refine LH_take (i := 5) rfl (fun h_ hI_ => Y_move rfl) rfl rfl rfl (by kernel_rfl) (by kernel_rfl) (by kernel_rfl) (fun _ _ _ => by rintro ⟨_, _, h_, _⟩; cases h_) (Ext.refl _) ?_
    refine LH_one (i := 6) (by kernel_rfl) ?_
    refine LO_mks (i := 6) rfl (M_litb (l := [(c).toNat.toUInt8]) (cells := [.int .u8 (c)]) (pv := [(0, .int .u8 (c))]) (E := 5) (evp (is := [0]) (os := [.tmp 28]) (vs := [.int .u8 (c)]) rfl rfl) rfl (by rw [bv_of (show 0 ≤ c ∧ c ≤ 255 by first | exact byt_lt _ _ | omega)]; rfl) (fun _ => by kernel_rfl)) rfl rfl rfl ?_
    rintro v4 h4 ⟨ho5, hx6⟩
    refine ⟨hx6, ?_⟩
    refine LH_one (i := 7) (by kernel_rfl) ?_
    refine LO_yld (i := 7) rfl (Y_bytes_str Try.underlying23 Try.underlying5 Try.underlying9 rfl ho5.bytes) rfl rfl rfl hx6 ?_
    refine LH_take (i := 8) rfl (fun h_ hI_ => Y_sadd rfl rfl (by first | omega | (simp <;> omega))) rfl rfl rfl (by kernel_rfl) (by kernel_rfl) (by kernel_rfl) (fun _ _ _ => by rintro ⟨_, _, h_, _⟩; cases h_) hx6 ?_
    refine LH_take (i := 9) rfl (fun h_ hI_ => Y_assign rfl) rfl rfl rfl (by kernel_rfl) (by kernel_rfl) (by kernel_rfl) (fun _ _ _ => by rintro ⟨_, _, h_, _⟩; cases h_) hx6 ?_
    refine LH_done (by kernel_rfl) ?_
    refine X_then ?_
    refine W_sub _ (.cons (i := 7) rfl (.cons (i := 6) rfl (.cons (i := 4) rfl (.nil _)))) ?_
    have ho : (L.take ((L.length : Int) - 1).toNat ++ [c.toNat.toUInt8]).length = (65534 + n % 5).toNat := by simp; omega
    refine W_cut (S := Unit) (fun _ => [(4, .bool (decide (((pcheck L) = 7) ∧ ((pcheck ((L.take ((L.length : Int) - 1).toNat) ++ [(c).toNat.toUInt8])) = 7))))]) (fun _ h' => Ext h4 h') ?_ ?_
    · refine W_region ?_
      refine L_call (E_call (by kernel_rfl) rfl) (law08_alive _) rfl rfl rfl ?_
      rintro _ h5 ⟨rfl, hx7⟩
      refine L_yld (Y_move rfl) rfl rfl rfl ?_
      refine L_yld (Y_move rfl) rfl rfl rfl ?_
      refine L_yld (Y_eql rfl rfl) rfl rfl rfl ?_
      refine L_yld (Y_pick_t rfl rfl) rfl rfl rfl ?_
      refine L_yld (Y_move rfl) rfl rfl rfl ?_
      refine L_splitd (d := 37) rfl (fun c8 => ?_) (fun c8 => ?_)
      · refine L_yld (Y_move rfl) rfl rfl rfl ?_
        refine L_call (E_call (by kernel_rfl) rfl) (pathname_Check _ ((L.take ((L.length : Int) - 1).toNat) ++ [(c).toNat.toUInt8]) (by first | omega | rfl | (simp <;> omega))) rfl rfl rfl ?_
        rintro _ h6 ⟨rfl, hx9⟩
        refine L_yld (Y_eql rfl rfl) rfl rfl rfl ?_
        refine L_yld (Y_pick_t rfl rfl) rfl rfl rfl ?_
        refine L_yld (Y_assign rfl) rfl rfl rfl ?_
        refine L_nil ?_
        exact X_cut () (.cons (i := 4) (lkb rfl (by simp only [eq_true c8, true_and, and_true, false_and, and_false, true_or, or_true, false_or, or_false, not_true_eq_false, not_false_eq_true, decide_true, decide_false, Bool.true_eq_false, Bool.false_eq_true, eq_self, Bool.decide_eq_true])) (.nil _)) (hx7.trans hx9)
      · refine L_skip rfl rfl rfl ?_
        refine L_skip rfl rfl rfl ?_
        refine L_skip rfl rfl rfl ?_
        refine L_yld (Y_pick_f rfl rfl) rfl rfl rfl ?_
        refine L_yld (Y_assign rfl) rfl rfl rfl ?_
        refine L_nil ?_
        exact X_cut () (.cons (i := 4) (lkb rfl (by simp only [eq_false c8, true_and, and_true, false_and, and_false, true_or, or_true, false_or, or_false, not_true_eq_false, not_false_eq_true, decide_true, decide_false, Bool.true_eq_false, Bool.false_eq_true, eq_self, Bool.decide_eq_true])) (.nil _)) hx7
    rintro _ h7 hx10
    show W _ _ _ _ _ [(4, .bool (decide (((pcheck L) = 7) ∧ ((pcheck ((L.take ((L.length : Int) - 1).toNat) ++ [(c).toNat.toUInt8])) = 7))))] _
    refine W_ret ?_
    refine X_ret1 rfl rfl ?_
    exact ⟨congrArg Value.bool (decide_eq_true ⟨by rw [hp, if_pos (by omega)], pcheck_long (by omega)⟩), (((hx1.trans hx2).trans hx6).trans hx10)⟩

end Go.Xp
