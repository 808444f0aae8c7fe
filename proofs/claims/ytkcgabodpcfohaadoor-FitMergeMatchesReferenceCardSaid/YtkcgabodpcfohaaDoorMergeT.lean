/- Layer 10 (fit): Merge on both sides, and the law that they agree. -/
import Derived.Test.YtkcgabodpcfohaaDoorMergeR
import Derived.Test.YtkcgabodpcfohaaDoorMergeQ
set_option linter.unusedSimpArgs false
set_option linter.unusedVariables false
set_option linter.unusedSectionVars false
namespace Go.Xp
open Go.Proofs

section
variable (h : Heap)
theorem ref10_Merge (ty : Int) (nm : List UInt8) (pr : List UInt8) (lk : List UInt8) (md : Int) (sz : Int) (w : Value) (l : List Rec) (hl : Rows recS h w l)
    (hty : 0 ≤ ty ∧ ty ≤ 255) (hnm : pr.length + 1 + nm.length ≤ 140737488355328) (hlk : lk.length ≤ 140737488355328) (hsz : -9223372036854775808 ≤ sz ∧ sz ≤ 9223372036854775807) (hn : l.length ≤ 140737488355328) (hs : ∀ r ∈ l, r.key.length ≤ 140737488355328 ∧ r.val.length ≤ 140737488355328) :
    Cal Tryd.prog 40 #[.agg #[.int .u8 ty, str nm, str pr, str lk, .int .i64 md, .int .i64 sz], w] h (fun v h' => v = .tuple #[.agg #[.int .i64 (oI (mres ty nm pr lk md sz l) (mkind ty)), str (oP (mres ty nm pr lk md sz l)), .int .i64 (oI (mres ty nm pr lk md sz l) md), str (oT (mres ty nm pr lk md sz l)), .int .i64 (oZ (mres ty nm pr lk md sz l))], .int .i64 (oE (mres ty nm pr lk md sz l) l)] ∧ Ext h h') := by
  rcases Nat.eq_zero_or_pos l.length with h0 | h0
  · exact ref10_MergeN h ty nm pr lk md sz w l hl hty hnm hlk hsz hn hs h0
  · exact ref10_MergeS h ty nm pr lk md sz w l hl hty hnm hlk hsz hn hs h0
end
theorem sum_step {l : List Rec} {i : Nat} (hi : i < l.length) (h20 : l.length ≤ 20) (hs : ∀ r ∈ l, r.key.length ≤ 140737488355328 ∧ r.val.length ≤ 140737488355328) {a b c : Nat} (ha : a ≤ 140737488355328) (hb : b ≤ 140737488355328) (hc : c ≤ 140737488355328) {n : Int} (hn : n = a + b + c + (rsum (l.take i) : Nat)) :
    IntKind.i64.wrap (n + IntKind.i64.wrap (((at_rec l i).key.length : Int) + ((at_rec l i).val.length : Int))) = a + b + c + (rsum (l.take (i + 1)) : Nat) := by
  have hmm := hs _ (at_rec_mem (l := l) (i := i) hi)
  have hsm := rsum_le hs (i := i) (by omega)
  have hst := rsum_take (l := l) (i := i) hi
  have hq : i * (2 * 140737488355328) ≤ 20 * (2 * 140737488355328) := Nat.mul_le_mul_right _ (by omega)
  rw [wrap_i64 (z := ((at_rec l i).key.length : Int) + ((at_rec l i).val.length : Int)) (by omega) (by omega), wrap_i64 (by omega) (by omega), hst]
  omega
set_option maxRecDepth 100000 in
theorem fitMergeMatchesReference (h : Heap) (hK : GlbK h) (hN : GlbN h) (hE : GlbE h) (hT : GlbT h) (hS : GlbS h) (ty : Int) (nm : List UInt8) (pr : List UInt8) (lk : List UInt8) (md : Int) (sz : Int) (w : Value) (l : List Rec) (hl : Rows recS h w l) (hty : 0 ≤ ty ∧ ty ≤ 255) (hnm : nm.length ≤ 140737488355328) (hpr : pr.length ≤ 140737488355328) (hlk : lk.length ≤ 140737488355328) (hmd : -9223372036854775808 ≤ md ∧ md ≤ 9223372036854775807) (hsz : -9223372036854775808 ≤ sz ∧ sz ≤ 9223372036854775807) (hn : l.length ≤ 140737488355328) (hs : ∀ r ∈ l, r.key.length ≤ 140737488355328 ∧ r.val.length ≤ 140737488355328) : Cal Tryd.prog 11 #[.agg #[.int .u8 (ty), str nm, str pr, str lk, .int .i64 (md), .int .i64 (sz)], w] h (fun v h' => v = .bool true ∧ Ext h h') := by
  refine Cal_enter (args := [.agg #[.int .u8 (ty), str nm, str pr, str lk, .int .i64 (md), .int .i64 (sz)], w]) Tryd.func11 rfl rfl rfl (fun σ => ?_)
  refine W_seq ?_
  refine W_region ?_
  refine L_mks (M_box rfl) rfl rfl rfl ?_
  rintro _ h1 ⟨rfl, hn1⟩
  have hk2 : Blk h1 h.size [.int .u8 (ty), str nm, str pr, str lk, .int .i64 (md), .int .i64 (sz)] := hn1.blk
  refine L_yld (Y_assign rfl) rfl rfl rfl ?_
  refine L_nil ?_
  refine X_then ?_
  refine W_sub _ (.cons (i := 4) rfl (.cons (i := 2) rfl (.cons (i := 1) rfl (.nil _)))) ?_
  refine W_seq ?_
  refine W_region ?_
  refine L_yld (Y_fieldAddr (off := 1) (by kernel_rfl) rfl rfl) rfl rfl rfl ?_
  refine L_yld (Y_ldblk Tryd.underlying9 rfl rfl hk2 rfl) rfl rfl rfl ?_
  refine L_yld (Y_slen Tryd.underlying9 rfl) rfl rfl rfl ?_
  refine L_yld (Y_fieldAddr (off := 2) (by kernel_rfl) rfl rfl) rfl rfl rfl ?_
  refine L_yld (Y_ldblk Tryd.underlying9 rfl rfl hk2 rfl) rfl rfl rfl ?_
  refine L_yld (Y_slen Tryd.underlying9 rfl) rfl rfl rfl ?_
  refine L_yld (Y_add rfl rfl (by omega) (by omega)) rfl rfl rfl ?_
  refine L_yld (Y_fieldAddr (off := 3) (by kernel_rfl) rfl rfl) rfl rfl rfl ?_
  refine L_yld (Y_ldblk Tryd.underlying9 rfl rfl hk2 rfl) rfl rfl rfl ?_
  refine L_yld (Y_slen Tryd.underlying9 rfl) rfl rfl rfl ?_
  refine L_yld (Y_add rfl rfl (by omega) (by omega)) rfl rfl rfl ?_
  refine L_yld (Y_assign rfl) rfl rfl rfl ?_
  refine L_nil ?_
  refine X_then ?_
  refine W_sub _ (.cons (i := 5) rfl (.cons (i := 4) rfl (.cons (i := 2) rfl (.cons (i := 1) rfl (.nil _))))) ?_
  refine W_seq ?_
  refine W_seq ?_
  refine W_region ?_
  refine L_yld (Y_move rfl) rfl rfl rfl ?_
  refine L_yld (Y_lenr Tryd.underlying22 rfl (hl.ext hn1.ext)) rfl rfl rfl ?_
  refine L_yld (Y_move rfl) rfl rfl rfl ?_
  refine L_nil ?_
  refine X_then ?_
  refine W_block ?_
  refine W_loop (S := Nat × Int) (fun (i, n) => [(24, .int .i64 ((l.length : Int))), (23, w), (4, .bool false), (2, .pointer (some ⟨h.size, 0, none⟩)), (1, w), (5, .int .i64 (n)), (25, .int .i64 ((i : Int)))]) (fun (i, n) h' => (i ≤ l.length ∧ (l.length ≤ 20 → n = nm.length + pr.length + lk.length + (rsum (l.take i) : Nat))) ∧ Ext h1 h') (fun (i, n) => l.length - i) (0, (nm.length : Int) + (pr.length : Int) + (lk.length : Int)) (.cons (i := 24) rfl (.cons (i := 23) rfl (.cons (i := 4) rfl (.cons (i := 2) rfl (.cons (i := 1) rfl (.cons (i := 5) rfl (.cons (i := 25) rfl (.nil _)))))))) ?_ ?_
  · exact ⟨⟨by omega, fun _ => by simp [rsum]⟩, Ext.refl _⟩
  rintro ⟨i, n⟩ h2 ⟨⟨hi, hc⟩, hx⟩
  show W _ _ _ _ _ [(24, .int .i64 ((l.length : Int))), (23, w), (4, .bool false), (2, .pointer (some ⟨h.size, 0, none⟩)), (1, w), (5, .int .i64 (n)), (25, .int .i64 ((i : Int)))] _
  refine W_seq ?_
  refine W_region ?_
  refine L_yld (Y_lss rfl rfl) rfl rfl rfl ?_
  refine L_nil ?_
  refine X_then ?_
  refine W_seq ?_
  refine W_splitd rfl (fun hlt => ?_) (fun hlt => ?_)
  · refine W_skip ?_
    refine X_then ?_
    refine W_sub _ (.cons (i := 24) rfl (.cons (i := 23) rfl (.cons (i := 4) rfl (.cons (i := 2) rfl (.cons (i := 1) rfl (.cons (i := 5) rfl (.cons (i := 25) rfl (.nil _)))))))) ?_
    refine W_seq ?_
    refine W_block ?_
    refine W_seq ?_
    refine W_region ?_
    refine L_yld (Y_idxr Tryd.underlying22 (show _ = some 2 by kernel_rfl) rfl rfl rfl (hl.ext (hn1.ext.trans hx)) (by omega) (by omega)) rfl rfl rfl ?_
    refine L_yld (Y_ldrA0 (k := ((i : Int)).toNat) (us := [str ((at_rec l ((i : Int)).toNat).key), str ((at_rec l ((i : Int)).toNat).val)]) Tryd.underlying30 rfl (show _ = some 2 by kernel_rfl) rfl rfl (hl.ext (hn1.ext.trans hx)) (by omega) rfl) rfl rfl rfl ?_
    refine L_mks (M_alloc (u := .agg #[str [], str []]) (by kernel_rfl)) rfl rfl rfl ?_
    rintro _ h3 ⟨rfl, hn3⟩
    have hk4 : Blk h3 h2.size [str [], str []] := hn3.blk
    refine L_dos (D_store (us := [str ((at_rec l ((i : Int)).toNat).key), str ((at_rec l ((i : Int)).toNat).val)]) (show _ = some 2 by kernel_rfl) rfl rfl rfl (by simp [Value.oneCell']) hk4 (by simp)) rfl rfl ?_
    rintro h4 hp5
    have hk6 : Blk h4 h2.size [str ((at_rec l ((i : Int)).toNat).key), str ((at_rec l ((i : Int)).toNat).val)] := hp5.blk
    refine L_nil ?_
    refine X_then ?_
    refine W_sub _ (.cons (i := 7) rfl (.cons (i := 24) rfl (.cons (i := 23) rfl (.cons (i := 4) rfl (.cons (i := 2) rfl (.cons (i := 1) rfl (.cons (i := 5) rfl (.cons (i := 25) rfl (.nil _))))))))) ?_
    refine W_region ?_
    refine L_yld (Y_move rfl) rfl rfl rfl ?_
    refine L_yld (Y_fieldAddr (off := 0) (by kernel_rfl) rfl rfl) rfl rfl rfl ?_
    refine L_yld (Y_ldblk Tryd.underlying9 rfl rfl hk6 rfl) rfl rfl rfl ?_
    refine L_yld (Y_slen Tryd.underlying9 rfl) rfl rfl rfl ?_
    refine L_yld (Y_fieldAddr (off := 1) (by kernel_rfl) rfl rfl) rfl rfl rfl ?_
    refine L_yld (Y_ldblk Tryd.underlying9 rfl rfl hk6 rfl) rfl rfl rfl ?_
    refine L_yld (Y_slen Tryd.underlying9 rfl) rfl rfl rfl ?_
    refine L_yld (Y_addw rfl rfl) rfl rfl rfl ?_
    refine L_yld (Y_addw rfl rfl) rfl rfl rfl ?_
    refine L_yld (Y_assign rfl) rfl rfl rfl ?_
    refine L_nil ?_
    refine X_block ?_
    refine X_then ?_
    refine W_sub _ (.cons (i := 5) rfl (.cons (i := 24) rfl (.cons (i := 23) rfl (.cons (i := 4) rfl (.cons (i := 2) rfl (.cons (i := 1) rfl (.cons (i := 25) rfl (.nil _)))))))) ?_
    refine W_region ?_
    refine L_yld (Y_add rfl rfl (by omega) (by omega)) rfl rfl rfl ?_
    refine L_yld (Y_move rfl) rfl rfl rfl ?_
    refine L_nil ?_
    refine X_loop ((i + 1, IntKind.i64.wrap (n + IntKind.i64.wrap (((at_rec l i).key.length : Int) + ((at_rec l i).val.length : Int))))) (.cons (i := 24) rfl (.cons (i := 23) rfl (.cons (i := 4) rfl (.cons (i := 2) rfl (.cons (i := 1) rfl (.cons (i := 5) rfl (.cons (i := 25) rfl (.nil _)))))))) ?_ ?_
    · exact ⟨⟨by omega, fun h20 => sum_step (by omega) h20 hs hnm hpr hlk (hc h20)⟩, ((hx.trans hn3.ext).then' hp5.only (by simp) hx.size)⟩
    · (try dsimp only)
      omega
  · refine W_exit ?_
    refine X_then_exit ?_
    refine X_then_exit ?_
    refine X_block_hit ?_
    refine X_then ?_
    refine W_sub _ (.cons (i := 4) rfl (.cons (i := 2) rfl (.cons (i := 1) rfl (.cons (i := 5) rfl (.nil _))))) ?_
    refine W_seq ?_
    refine W_cut (S := Unit) (fun _ => [(45, .bool (decide ((70000 < n) ∨ (20 < (l.length : Int))))), (4, .bool false), (2, .pointer (some ⟨h.size, 0, none⟩)), (1, w)]) (fun _ h' => h' = h2) ?_ ?_
    · refine W_region ?_
      refine L_yld (Y_move rfl) rfl rfl rfl ?_
      refine L_yld (Y_gtr rfl rfl) rfl rfl rfl ?_
      refine L_yld (Y_move rfl) rfl rfl rfl ?_
      refine L_splitd (d := 41) rfl (fun c7 => ?_) (fun c7 => ?_)
      · refine L_skip rfl rfl rfl ?_
        refine L_skip rfl rfl rfl ?_
        refine L_skip rfl rfl rfl ?_
        refine L_yld (Y_pick_t rfl rfl) rfl rfl rfl ?_
        refine L_nil ?_
        exact X_cut () (.cons (i := 45) (lkb rfl (by simp only [eq_true c7, true_and, and_true, false_and, and_false, true_or, or_true, false_or, or_false, not_true_eq_false, not_false_eq_true, decide_true, decide_false, Bool.true_eq_false, Bool.false_eq_true, eq_self, Bool.decide_eq_true])) (.cons (i := 4) rfl (.cons (i := 2) rfl (.cons (i := 1) rfl (.nil _))))) rfl
      · refine L_yld (Y_move rfl) rfl rfl rfl ?_
        refine L_yld (Y_lenr Tryd.underlying22 rfl (hl.ext (hn1.ext.trans hx))) rfl rfl rfl ?_
        refine L_yld (Y_gtr rfl rfl) rfl rfl rfl ?_
        refine L_yld (Y_pick_f rfl rfl) rfl rfl rfl ?_
        refine L_nil ?_
        exact X_cut () (.cons (i := 45) (lkb rfl (by simp only [eq_false c7, true_and, and_true, false_and, and_false, true_or, or_true, false_or, or_false, not_true_eq_false, not_false_eq_true, decide_true, decide_false, Bool.true_eq_false, Bool.false_eq_true, eq_self, Bool.decide_eq_true])) (.cons (i := 4) rfl (.cons (i := 2) rfl (.cons (i := 1) rfl (.nil _))))) rfl
    rintro _ h2 rfl
    show W _ _ _ _ _ [(45, .bool (decide ((70000 < n) ∨ (20 < (l.length : Int))))), (4, .bool false), (2, .pointer (some ⟨h.size, 0, none⟩)), (1, w)] _
    refine W_splitd rfl (fun g => ?_) (fun g => ?_)
    · refine W_seq ?_
      refine W_region ?_
      refine L_call (E_call (by kernel_rfl) rfl) (law10_alive _ (hK.ext (hn1.ext.trans hx)) (hN.ext (hn1.ext.trans hx)) (hE.ext (hn1.ext.trans hx)) (hT.ext (hn1.ext.trans hx))) rfl rfl rfl ?_
      rintro _ h5 ⟨rfl, hx8⟩
      refine L_yld (Y_assign rfl) rfl rfl rfl ?_
      refine L_nil ?_
      refine X_then ?_
      refine W_sub _ (.cons (i := 4) rfl (.cons (i := 2) rfl (.cons (i := 1) rfl (.nil _)))) ?_
      refine W_ret ?_
      refine X_then_ret ?_
      refine X_ret1 rfl rfl ?_
      exact ⟨rfl, ((hn1.ext.trans hx).trans hx8)⟩
    · refine W_skip ?_
      refine X_then ?_
      refine W_sub _ (.cons (i := 4) rfl (.cons (i := 2) rfl (.cons (i := 1) rfl (.nil _)))) ?_
      have hc2 := hc (by omega)
      refine W_seq ?_
      refine W_region ?_
      refine L_yld (Y_ldbox (us := [.int .u8 (ty), str nm, str pr, str lk, .int .i64 (md), .int .i64 (sz)]) Tryd.underlying48 rfl (show _ = some 6 by kernel_rfl) rfl (hk2.ext hx) rfl) rfl rfl rfl ?_
      refine L_yld (Y_move rfl) rfl rfl rfl ?_
      refine L_call (E_call (by kernel_rfl) rfl) (fit_Merge _ (hK.ext (hn1.ext.trans hx)) (hN.ext (hn1.ext.trans hx)) (hE.ext (hn1.ext.trans hx)) (hT.ext (hn1.ext.trans hx)) (hS.ext (hn1.ext.trans hx)) ty nm pr lk md sz w l (hl.ext (hn1.ext.trans hx)) hty (by omega) hlk hsz hn hs) rfl rfl rfl ?_
      rintro _ h6 ⟨rfl, hx9⟩
      refine L_yld (Y_move rfl) rfl rfl rfl ?_
      refine L_yld (Y_extract (v := .agg #[.int .i64 (oI (mres ty nm pr lk md sz l) (mkind ty)), str (oP (mres ty nm pr lk md sz l)), .int .i64 (oI (mres ty nm pr lk md sz l) md), str (oT (mres ty nm pr lk md sz l)), .int .i64 (oZ (mres ty nm pr lk md sz l))]) rfl rfl) rfl rfl rfl ?_
      refine L_yld (Y_extract (v := .int .i64 (oE (mres ty nm pr lk md sz l) l)) rfl rfl) rfl rfl rfl ?_
      refine L_mks (M_alloc (u := .agg #[.int .i64 0, str [], .int .i64 0, str [], .int .i64 0]) (by kernel_rfl)) rfl rfl rfl ?_
      rintro _ h7 ⟨rfl, hn10⟩
      have hk11 : Blk h7 h6.size [.int .i64 0, str [], .int .i64 0, str [], .int .i64 0] := hn10.blk
      refine L_dos (D_store (us := [.int .i64 (oI (mres ty nm pr lk md sz l) (mkind ty)), str (oP (mres ty nm pr lk md sz l)), .int .i64 (oI (mres ty nm pr lk md sz l) md), str (oT (mres ty nm pr lk md sz l)), .int .i64 (oZ (mres ty nm pr lk md sz l))]) (show _ = some 5 by kernel_rfl) rfl rfl rfl (by simp [Value.oneCell']) hk11 (by simp)) rfl rfl ?_
      rintro h8 hp12
      have hk13 : Blk h8 h6.size [.int .i64 (oI (mres ty nm pr lk md sz l) (mkind ty)), str (oP (mres ty nm pr lk md sz l)), .int .i64 (oI (mres ty nm pr lk md sz l) md), str (oT (mres ty nm pr lk md sz l)), .int .i64 (oZ (mres ty nm pr lk md sz l))] := hp12.blk
      refine L_yld (Y_assign rfl) rfl rfl rfl ?_
      refine L_nil ?_
      refine X_then ?_
      refine W_sub _ (.cons (i := 9) rfl (.cons (i := 8) rfl (.cons (i := 4) rfl (.cons (i := 2) rfl (.cons (i := 1) rfl (.nil _)))))) ?_
      refine W_seq ?_
      refine W_region ?_
      refine L_yld (Y_ldbox (us := [.int .u8 (ty), str nm, str pr, str lk, .int .i64 (md), .int .i64 (sz)]) Tryd.underlying48 rfl (show _ = some 6 by kernel_rfl) rfl (hk2.ext (((hx.trans hx9).trans hn10.ext).then' hp12.only (by simp) (Nat.le_trans hx.size hx9.size))) rfl) rfl rfl rfl ?_
      refine L_call (E_call (by kernel_rfl) rfl) (law07_Of _ ty nm pr lk md sz) rfl rfl rfl ?_
      rintro _ h9 ⟨rfl, hx14⟩
      refine L_yld (Y_move rfl) rfl rfl rfl ?_
      refine L_call (E_call (by kernel_rfl) rfl) (ref10_Merge _ ty nm pr lk md sz w l (hl.ext (((((hn1.ext.trans hx).trans hx9).trans hn10.ext).then' hp12.only (by simp) (Nat.le_trans (Nat.le_trans hn1.ext.size hx.size) hx9.size)).trans hx14)) hty (by omega) hlk hsz hn hs) rfl rfl rfl ?_
      rintro _ h10 ⟨rfl, hx15⟩
      refine L_yld (Y_move rfl) rfl rfl rfl ?_
      refine L_yld (Y_extract (v := .agg #[.int .i64 (oI (mres ty nm pr lk md sz l) (mkind ty)), str (oP (mres ty nm pr lk md sz l)), .int .i64 (oI (mres ty nm pr lk md sz l) md), str (oT (mres ty nm pr lk md sz l)), .int .i64 (oZ (mres ty nm pr lk md sz l))]) rfl rfl) rfl rfl rfl ?_
      refine L_yld (Y_extract (v := .int .i64 (oE (mres ty nm pr lk md sz l) l)) rfl rfl) rfl rfl rfl ?_
      refine L_mks (M_alloc (u := .agg #[.int .i64 0, str [], .int .i64 0, str [], .int .i64 0]) (by kernel_rfl)) rfl rfl rfl ?_
      rintro _ h11 ⟨rfl, hn16⟩
      have hk17 : Blk h11 h10.size [.int .i64 0, str [], .int .i64 0, str [], .int .i64 0] := hn16.blk
      refine L_dos (D_store (us := [.int .i64 (oI (mres ty nm pr lk md sz l) (mkind ty)), str (oP (mres ty nm pr lk md sz l)), .int .i64 (oI (mres ty nm pr lk md sz l) md), str (oT (mres ty nm pr lk md sz l)), .int .i64 (oZ (mres ty nm pr lk md sz l))]) (show _ = some 5 by kernel_rfl) rfl rfl rfl (by simp [Value.oneCell']) hk17 (by simp)) rfl rfl ?_
      rintro h12 hp18
      have hk19 : Blk h12 h10.size [.int .i64 (oI (mres ty nm pr lk md sz l) (mkind ty)), str (oP (mres ty nm pr lk md sz l)), .int .i64 (oI (mres ty nm pr lk md sz l) md), str (oT (mres ty nm pr lk md sz l)), .int .i64 (oZ (mres ty nm pr lk md sz l))] := hp18.blk
      refine L_yld (Y_assign rfl) rfl rfl rfl ?_
      refine L_nil ?_
      refine X_then ?_
      refine W_sub _ (.cons (i := 11) rfl (.cons (i := 10) rfl (.cons (i := 9) rfl (.cons (i := 8) rfl (.cons (i := 4) rfl (.nil _)))))) ?_
      refine W_seq ?_
      refine W_region ?_
      refine L_call (E_call (by kernel_rfl) rfl) (law10_alive _ (hK.ext ((((((((hn1.ext.trans hx).trans hx9).trans hn10.ext).then' hp12.only (by simp) (Nat.le_trans (Nat.le_trans hn1.ext.size hx.size) hx9.size)).trans hx14).trans hx15).trans hn16.ext).then' hp18.only (by simp) (Nat.le_trans (Nat.le_trans (Nat.le_trans (Nat.le_trans (Nat.le_trans (Nat.le_trans hn1.ext.size hx.size) hx9.size) hn10.ext.size) hp12.only.size) hx14.size) hx15.size))) (hN.ext ((((((((hn1.ext.trans hx).trans hx9).trans hn10.ext).then' hp12.only (by simp) (Nat.le_trans (Nat.le_trans hn1.ext.size hx.size) hx9.size)).trans hx14).trans hx15).trans hn16.ext).then' hp18.only (by simp) (Nat.le_trans (Nat.le_trans (Nat.le_trans (Nat.le_trans (Nat.le_trans (Nat.le_trans hn1.ext.size hx.size) hx9.size) hn10.ext.size) hp12.only.size) hx14.size) hx15.size))) (hE.ext ((((((((hn1.ext.trans hx).trans hx9).trans hn10.ext).then' hp12.only (by simp) (Nat.le_trans (Nat.le_trans hn1.ext.size hx.size) hx9.size)).trans hx14).trans hx15).trans hn16.ext).then' hp18.only (by simp) (Nat.le_trans (Nat.le_trans (Nat.le_trans (Nat.le_trans (Nat.le_trans (Nat.le_trans hn1.ext.size hx.size) hx9.size) hn10.ext.size) hp12.only.size) hx14.size) hx15.size))) (hT.ext ((((((((hn1.ext.trans hx).trans hx9).trans hn10.ext).then' hp12.only (by simp) (Nat.le_trans (Nat.le_trans hn1.ext.size hx.size) hx9.size)).trans hx14).trans hx15).trans hn16.ext).then' hp18.only (by simp) (Nat.le_trans (Nat.le_trans (Nat.le_trans (Nat.le_trans (Nat.le_trans (Nat.le_trans hn1.ext.size hx.size) hx9.size) hn10.ext.size) hp12.only.size) hx14.size) hx15.size)))) rfl rfl rfl ?_
      rintro _ h13 ⟨rfl, hx20⟩
      refine L_yld (Y_move rfl) rfl rfl rfl ?_
      refine L_yld (Y_ldbox (us := [.int .i64 (oI (mres ty nm pr lk md sz l) (mkind ty)), str (oP (mres ty nm pr lk md sz l)), .int .i64 (oI (mres ty nm pr lk md sz l) md), str (oT (mres ty nm pr lk md sz l)), .int .i64 (oZ (mres ty nm pr lk md sz l))]) Tryd.underlying46 rfl (show _ = some 5 by kernel_rfl) rfl (hk13.ext ((((hx14.trans hx15).trans hn16.ext).then' hp18.only (by simp) (Nat.le_trans hx14.size hx15.size)).trans hx20)) rfl) rfl rfl rfl ?_
      refine L_yld (Y_ldbox (us := [.int .i64 (oI (mres ty nm pr lk md sz l) (mkind ty)), str (oP (mres ty nm pr lk md sz l)), .int .i64 (oI (mres ty nm pr lk md sz l) md), str (oT (mres ty nm pr lk md sz l)), .int .i64 (oZ (mres ty nm pr lk md sz l))]) Tryd.underlying46 rfl (show _ = some 5 by kernel_rfl) rfl (hk19.ext hx20) rfl) rfl rfl rfl ?_
      refine L_yld (Y_steql (xs := [.int .i64 (oI (mres ty nm pr lk md sz l) (mkind ty)), str (oP (mres ty nm pr lk md sz l)), .int .i64 (oI (mres ty nm pr lk md sz l) md), str (oT (mres ty nm pr lk md sz l)), .int .i64 (oZ (mres ty nm pr lk md sz l))]) (ys := [.int .i64 (oI (mres ty nm pr lk md sz l) (mkind ty)), str (oP (mres ty nm pr lk md sz l)), .int .i64 (oI (mres ty nm pr lk md sz l) md), str (oT (mres ty nm pr lk md sz l)), .int .i64 (oZ (mres ty nm pr lk md sz l))]) (r := decide ((oI (mres ty nm pr lk md sz l) (mkind ty)) = (oI (mres ty nm pr lk md sz l) (mkind ty)) ∧ (oP (mres ty nm pr lk md sz l)) = (oP (mres ty nm pr lk md sz l)) ∧ (oI (mres ty nm pr lk md sz l) md) = (oI (mres ty nm pr lk md sz l) md) ∧ (oT (mres ty nm pr lk md sz l)) = (oT (mres ty nm pr lk md sz l)) ∧ (oZ (mres ty nm pr lk md sz l)) = (oZ (mres ty nm pr lk md sz l)))) (by kernel_rfl) (by kernel_rfl) (by kernel_rfl) rfl rfl (steq (ks := [.i .i64, .s, .i .i64, .s, .i .i64]) (by kernel_rfl) (by simp [eqks, eqk]))) rfl rfl rfl ?_
      refine L_yld (Y_pick_t rfl rfl) rfl rfl rfl ?_
      refine L_yld (Y_move rfl) rfl rfl rfl ?_
      refine L_known (d := 66) true rfl (by exact decide_eq_true (by exact ⟨rfl, rfl, rfl, rfl, rfl⟩)) ?_
      refine L_yld (Y_move rfl) rfl rfl rfl ?_
      refine L_yld (Y_move rfl) rfl rfl rfl ?_
      refine L_yld (Y_eql rfl rfl) rfl rfl rfl ?_
      refine L_yld (Y_pick_t rfl rfl) rfl rfl rfl ?_
      refine L_yld (Y_assign rfl) rfl rfl rfl ?_
      refine L_nil ?_
      refine X_then ?_
      refine W_sub _ (.cons (i := 4) rfl (.nil _)) ?_
      refine W_ret ?_
      refine X_ret1 rfl rfl ?_
      exact ⟨by simp, (((((((((hn1.ext.trans hx).trans hx9).trans hn10.ext).then' hp12.only (by simp) (Nat.le_trans (Nat.le_trans hn1.ext.size hx.size) hx9.size)).trans hx14).trans hx15).trans hn16.ext).then' hp18.only (by simp) (Nat.le_trans (Nat.le_trans (Nat.le_trans (Nat.le_trans (Nat.le_trans (Nat.le_trans hn1.ext.size hx.size) hx9.size) hn10.ext.size) hp12.only.size) hx14.size) hx15.size)).trans hx20)⟩
end Go.Xp
