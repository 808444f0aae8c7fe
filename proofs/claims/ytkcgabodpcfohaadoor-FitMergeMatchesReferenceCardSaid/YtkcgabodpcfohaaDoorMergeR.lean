/- Layer 10 (fit): Merge, the reference's side. -/
import Derived.Test.YtkcgabodpcfohaaDoorMergeL
set_option linter.unusedSimpArgs false
set_option linter.unusedVariables false
set_option linter.unusedSectionVars false
namespace Go.Xp
open Go.Proofs

set_option maxRecDepth 100000 in
theorem ref10_Same (h : Heap) (v : Value) (a : List Rec) (ha : Rows recS h v a) (u : Value) (b : List Rec) (hb : Rows recS h u b) (hl0 : a.length ≤ 140737488355328) : Cal Tryd.prog 72 #[v, u] h (fun v h' => v = .bool (decide (a = b)) ∧ h' = h) := by
  refine Cal_enter (args := [v, u]) Tryd.func72 rfl rfl rfl (fun σ => ?_)
  refine W_seq ?_
  refine W_region ?_
  refine L_yld (Y_assign rfl) rfl rfl rfl ?_
  refine L_nil ?_
  refine X_then ?_
  refine W_seq ?_
  refine W_seq ?_
  refine W_region ?_
  refine L_yld (Y_move rfl) rfl rfl rfl ?_
  refine L_yld (Y_lenr Tryd.underlying22 rfl ha) rfl rfl rfl ?_
  refine L_yld (Y_move rfl) rfl rfl rfl ?_
  refine L_yld (Y_lenr Tryd.underlying22 rfl hb) rfl rfl rfl ?_
  refine L_yld (Y_neq rfl rfl) rfl rfl rfl ?_
  refine L_nil ?_
  refine X_then ?_
  refine W_sub _ (.cons (i := 10) rfl (.cons (i := 4) rfl (.cons (i := 0) rfl (.cons (i := 1) rfl (.nil _))))) ?_
  refine W_splitd rfl (fun c => ?_) (fun c => ?_)
  · refine W_seq ?_
    refine W_region ?_
    refine L_yld (Y_assign rfl) rfl rfl rfl ?_
    refine L_nil ?_
    refine X_then ?_
    refine W_sub _ (.cons (i := 4) rfl (.cons (i := 0) rfl (.cons (i := 1) rfl (.nil _)))) ?_
    refine W_ret ?_
    refine X_then_ret ?_
    refine X_ret1 rfl rfl ?_
    exact ⟨by rw [decide_eq_false (fun e => c (by rw [e]))], rfl⟩
  · refine W_skip ?_
    refine X_then ?_
    refine W_sub _ (.cons (i := 4) rfl (.cons (i := 0) rfl (.cons (i := 1) rfl (.nil _)))) ?_
    have hlen : a.length = b.length := by omega
    refine W_seq ?_
    refine W_seq ?_
    refine W_region ?_
    refine L_yld (Y_assign rfl) rfl rfl rfl ?_
    refine L_nil ?_
    refine X_then ?_
    refine W_block ?_
    refine W_loop (S := Nat) (fun i => [(0, v), (1, u), (5, .int .i64 ((i : Int)))]) (fun i h' => i ≤ a.length ∧ (∀ k, k < i → at_rec a k = at_rec b k) ∧ h' = h) (fun i => a.length - i) 0 (.cons (i := 0) rfl (.cons (i := 1) rfl (.cons (i := 5) rfl (.nil _)))) ?_ ?_
    · exact ⟨Nat.zero_le _, (fun _ hk => absurd hk (Nat.not_lt_zero _)), rfl⟩
    rintro i h ⟨hi, hip, rfl⟩
    show W _ _ _ _ _ [(0, v), (1, u), (5, .int .i64 ((i : Int)))] _
    refine W_seq ?_
    refine W_seq ?_
    refine W_region ?_
    refine L_yld (Y_move rfl) rfl rfl rfl ?_
    refine L_yld (Y_move rfl) rfl rfl rfl ?_
    refine L_yld (Y_lenr Tryd.underlying22 rfl ha) rfl rfl rfl ?_
    refine L_yld (Y_lss rfl rfl) rfl rfl rfl ?_
    refine L_nil ?_
    refine X_then ?_
    refine W_sub _ (.cons (i := 14) rfl (.cons (i := 0) rfl (.cons (i := 1) rfl (.cons (i := 5) rfl (.nil _))))) ?_
    refine W_splitd rfl (fun hl => ?_) (fun hl => ?_)
    · refine W_skip ?_
      refine X_then ?_
      refine W_sub _ (.cons (i := 0) rfl (.cons (i := 1) rfl (.cons (i := 5) rfl (.nil _)))) ?_
      refine W_seq ?_
      refine W_block ?_
      refine W_seq ?_
      refine W_quiet (fun h' => h' = h) (by kernel_rfl) (by kernel_rfl) rfl ?_
      refine LQ_yld (fun h_ hI_ => by subst hI_; exact Y_move rfl) rfl rfl rfl ?_
      refine LQ_yld (fun h_ hI_ => by subst hI_; exact Y_move rfl) rfl rfl rfl ?_
      refine LQ_yld (fun h_ hI_ => by subst hI_; exact Y_idxr Tryd.underlying22 (show _ = some 2 by kernel_rfl) rfl rfl rfl ha (by omega) (by omega)) rfl rfl rfl ?_
      refine LQ_yld (fun h_ hI_ => by subst hI_; exact Y_ldrA0 (k := ((i : Int)).toNat) (us := [str ((at_rec a ((i : Int)).toNat).key), str ((at_rec a ((i : Int)).toNat).val)]) Tryd.underlying30 rfl (show _ = some 2 by kernel_rfl) rfl rfl ha (by omega) rfl) rfl rfl rfl ?_
      refine LQ_yld (fun h_ hI_ => by subst hI_; exact Y_move rfl) rfl rfl rfl ?_
      refine LQ_yld (fun h_ hI_ => by subst hI_; exact Y_move rfl) rfl rfl rfl ?_
      refine LQ_yld (fun h_ hI_ => by subst hI_; exact Y_idxr Tryd.underlying22 (show _ = some 2 by kernel_rfl) rfl rfl rfl hb (by omega) (by omega)) rfl rfl rfl ?_
      refine LQ_yld (fun h_ hI_ => by subst hI_; exact Y_ldrA0 (k := ((i : Int)).toNat) (us := [str ((at_rec b ((i : Int)).toNat).key), str ((at_rec b ((i : Int)).toNat).val)]) Tryd.underlying30 rfl (show _ = some 2 by kernel_rfl) rfl rfl hb (by omega) rfl) rfl rfl rfl ?_
      refine LQ_yld (fun h_ hI_ => by subst hI_; exact Y_decneg (Y_stneq (xs := [str ((at_rec a ((i : Int)).toNat).key), str ((at_rec a ((i : Int)).toNat).val)]) (ys := [str ((at_rec b ((i : Int)).toNat).key), str ((at_rec b ((i : Int)).toNat).val)]) (r := decide (((at_rec a ((i : Int)).toNat).key) = ((at_rec b ((i : Int)).toNat).key) ∧ ((at_rec a ((i : Int)).toNat).val) = ((at_rec b ((i : Int)).toNat).val))) (by kernel_rfl) (by kernel_rfl) (by kernel_rfl) rfl rfl (steq (ks := [.s, .s]) (by kernel_rfl) (by simp [eqks, eqk])))) rfl rfl rfl ?_
      refine LQ_nil ?_
      rintro h rfl
      refine X_then ?_
      refine W_sub _ (.cons (i := 25) rfl (.cons (i := 0) rfl (.cons (i := 1) rfl (.cons (i := 5) rfl (.nil _))))) ?_
      refine W_splitd rfl (fun hne => ?_) (fun hne => ?_)
      · refine W_seq ?_
        refine W_region ?_
        refine L_yld (Y_assign rfl) rfl rfl rfl ?_
        refine L_nil ?_
        refine X_then ?_
        refine W_sub _ (.cons (i := 4) rfl (.cons (i := 0) rfl (.cons (i := 1) rfl (.cons (i := 5) rfl (.nil _))))) ?_
        refine W_ret ?_
        refine X_block_ret ?_
        refine X_then_ret ?_
        refine X_then_ret ?_
        refine X_block_ret ?_
        refine X_then_ret ?_
        refine X_ret1 rfl rfl ?_
        exact ⟨by rw [decide_eq_false (fun e => hne ⟨by rw [e], by rw [e]⟩)], rfl⟩
      · refine W_skip ?_
        refine X_block ?_
        refine X_then ?_
        refine W_sub _ (.cons (i := 0) rfl (.cons (i := 1) rfl (.cons (i := 5) rfl (.nil _)))) ?_
        refine W_region ?_
        refine L_yld (Y_move rfl) rfl rfl rfl ?_
        refine L_yld (Y_add rfl rfl (by omega) (by omega)) rfl rfl rfl ?_
        refine L_yld (Y_assign rfl) rfl rfl rfl ?_
        refine L_nil ?_
        refine X_loop (i + 1) (.cons (i := 0) rfl (.cons (i := 1) rfl (.cons (i := 5) rfl (.nil _)))) ?_ ?_
        · exact ⟨by omega, (step_ne hip (by have h9 := Classical.not_not.1 hne; rw [Int.toNat_natCast] at h9; exact rec_eq h9)), rfl⟩
        · (try dsimp only)
          omega
    · refine W_exit ?_
      refine X_then_exit ?_
      refine X_then_exit ?_
      refine X_block_hit ?_
      refine X_then ?_
      refine W_sub _ (.nil _) ?_
      refine W_seq ?_
      refine W_region ?_
      refine L_yld (Y_assign rfl) rfl rfl rfl ?_
      refine L_nil ?_
      refine X_then ?_
      refine W_ret ?_
      refine X_ret1 rfl rfl ?_
      exact ⟨by rw [decide_eq_true (rec_ext hlen (fun k hk => hip k (by omega)))], rfl⟩

theorem rfold_drop {l : List Rec} {i : Nat} (hi : i < l.length) (p tg : List UInt8) (z : Int) : rfold (l.drop i) p tg z = match rstep (at_rec l i) p tg z with
    | some (p', tg', z') => rfold (l.drop (i + 1)) p' tg' z'
    | none => none := by
  rw [List.drop_eq_getElem_cons hi, at_rec_eq hi]; rfl
theorem rfold_link {l : List Rec} {i : Nat} (hi : i < l.length) (hk : (at_rec l i).key = [108, 105, 110, 107, 112, 97, 116, 104]) (p tg : List UInt8) (z : Int) : rfold (l.drop i) p tg z = rfold (l.drop (i + 1)) p (at_rec l i).val z := by
  rw [rfold_drop hi, rstep, if_pos hk]
theorem rfold_path {l : List Rec} {i : Nat} (hi : i < l.length) (h1 : ¬ (at_rec l i).key = [108, 105, 110, 107, 112, 97, 116, 104]) (hk : (at_rec l i).key = [112, 97, 116, 104]) (p tg : List UInt8) (z : Int) : rfold (l.drop i) p tg z = rfold (l.drop (i + 1)) (at_rec l i).val tg z := by
  rw [rfold_drop hi, rstep, if_neg h1, if_pos hk]
theorem rfold_size {l : List Rec} {i : Nat} (hi : i < l.length) (h1 : ¬ (at_rec l i).key = [108, 105, 110, 107, 112, 97, 116, 104]) (h2 : ¬ (at_rec l i).key = [112, 97, 116, 104]) (hk : (at_rec l i).key = [115, 105, 122, 101]) (ho : nerr (at_rec l i).val 1099511627776 = 0) (p tg : List UInt8) (z : Int) : rfold (l.drop i) p tg z = rfold (l.drop (i + 1)) p tg (nnum (at_rec l i).val 1099511627776) := by
  rw [rfold_drop hi, rstep, if_neg h1, if_neg h2, if_pos hk, if_pos ho]
theorem rfold_bad {l : List Rec} {i : Nat} (hi : i < l.length) (h1 : ¬ (at_rec l i).key = [108, 105, 110, 107, 112, 97, 116, 104]) (h2 : ¬ (at_rec l i).key = [112, 97, 116, 104]) (hk : (at_rec l i).key = [115, 105, 122, 101]) (ho : ¬ nerr (at_rec l i).val 1099511627776 = 0) (p tg : List UInt8) (z : Int) : rfold (l.drop i) p tg z = none := by
  rw [rfold_drop hi, rstep, if_neg h1, if_neg h2, if_pos hk, if_neg ho]
theorem rfold_other {l : List Rec} {i : Nat} (hi : i < l.length) (h1 : ¬ (at_rec l i).key = [108, 105, 110, 107, 112, 97, 116, 104]) (h2 : ¬ (at_rec l i).key = [112, 97, 116, 104]) (h3 : ¬ (at_rec l i).key = [115, 105, 122, 101]) (p tg : List UInt8) (z : Int) : rfold (l.drop i) p tg z = rfold (l.drop (i + 1)) p tg z := by
  rw [rfold_drop hi, rstep, if_neg h1, if_neg h2, if_neg h3]
theorem rfold_nil {l : List Rec} {i : Nat} (hi : l.length ≤ i) (p tg : List UInt8) (z : Int) : rfold (l.drop i) p tg z = some (p, tg, z) := by
  rw [List.drop_eq_nil_of_le hi]; rfl
theorem mres_r (ty md sz : Int) (nm pr lk : List UInt8) (l : List Rec) : mres ty nm pr lk md sz l = mcheck (mkind ty) md ty nm pr lk md sz l (rfold l (pjoin pr nm) lk sz) := (mcheck_rfold _ _ _ _ _ _ _ _ _ _ _ _).symm
theorem rres_none {ty md sz : Int} {nm pr lk : List UInt8} {l : List Rec} (h : rfold l (pjoin pr nm) lk sz = none) : mres ty nm pr lk md sz l = none := by
  rw [mres_r, h]; rfl
theorem rres_not {ty md sz : Int} {nm pr lk : List UInt8} {l : List Rec} {p tg : List UInt8} {z : Int} (h : rfold l (pjoin pr nm) lk sz = some (p, tg, z)) (hn : ¬ mok (mkind ty) md ty nm pr lk md sz l p tg z) : mres ty nm pr lk md sz l = none := by
  rw [mres_r, h]; exact if_neg hn
theorem rres_yes {ty md sz : Int} {nm pr lk : List UInt8} {l : List Rec} {p tg : List UInt8} {z : Int} (h : rfold l (pjoin pr nm) lk sz = some (p, tg, z)) (hn : mok (mkind ty) md ty nm pr lk md sz l p tg z) : mres ty nm pr lk md sz l = some (p, tg, z) := by
  rw [mres_r, h]; exact if_pos hn
/-- The last index of a header type among the first i. -/
def kof (ty : Int) : Nat → Int
  | 0 => -1
  | i + 1 => if byt [53, 48, 50, 49] i = ty then (i : Int) else kof ty i
theorem kof_yes {ty : Int} {i : Nat} (h : byt [53, 48, 50, 49] i = ty) : kof ty (i + 1) = i := if_pos h
theorem kof_no {ty : Int} {i : Nat} (h : ¬ byt [53, 48, 50, 49] i = ty) : kof ty (i + 1) = kof ty i := if_neg h
theorem kof_mkind {ty : Int} (h : 0 ≤ ty ∧ ty ≤ 255) : kof ty 4 = mkind ty := by
  obtain ⟨n, rfl⟩ := Int.eq_ofNat_of_zero_le h.1
  have key : ∀ n : Fin 256, kof ((n.val : Nat) : Int) 4 = mkind ((n.val : Nat) : Int) := by decide +kernel
  exact key ⟨n, by omega⟩

theorem nnum_range (s : List UInt8) : -9223372036854775808 ≤ nnum s 1099511627776 ∧ nnum s 1099511627776 ≤ 9223372036854775807 := by
  unfold nnum
  split
  · rename_i h
    unfold nerr at h
    split at h
    · cases h
    · split at h
      · cases h
      · omega
  · omega
set_option maxRecDepth 100000 in
theorem ref10_MergeS (h : Heap) (ty : Int) (nm : List UInt8) (pr : List UInt8) (lk : List UInt8) (md : Int) (sz : Int) (w : Value) (l : List Rec) (hl : Rows recS h w l) (hty : 0 ≤ ty ∧ ty ≤ 255) (hnm : pr.length + 1 + nm.length ≤ 140737488355328) (hlk : lk.length ≤ 140737488355328) (hsz : -9223372036854775808 ≤ sz ∧ sz ≤ 9223372036854775807) (hn : l.length ≤ 140737488355328) (hs : ∀ r ∈ l, r.key.length ≤ 140737488355328 ∧ r.val.length ≤ 140737488355328) (h0 : 0 < l.length) : Cal Tryd.prog 40 #[.agg #[.int .u8 (ty), str nm, str pr, str lk, .int .i64 (md), .int .i64 (sz)], w] h (fun v h' => v = .tuple #[.agg #[.int .i64 (oI (mres ty nm pr lk md sz l) (mkind ty)), str (oP (mres ty nm pr lk md sz l)), .int .i64 (oI (mres ty nm pr lk md sz l) md), str (oT (mres ty nm pr lk md sz l)), .int .i64 (oZ (mres ty nm pr lk md sz l))], .int .i64 (oE (mres ty nm pr lk md sz l) l)] ∧ Ext h h') := by
  refine Cal_enter (args := [.agg #[.int .u8 (ty), str nm, str pr, str lk, .int .i64 (md), .int .i64 (sz)], w]) Tryd.func40 rfl rfl rfl (fun σ => ?_)
  refine W_seq ?_
  refine W_region ?_
  refine L_mks (M_box rfl) rfl rfl rfl ?_
  rintro _ h1 ⟨rfl, hn1⟩
  have hk2 : Blk h1 h.size [.int .u8 (ty), str nm, str pr, str lk, .int .i64 (md), .int .i64 (sz)] := hn1.blk
  refine L_mks (M_alloc (u := .agg #[.int .i64 0, str [], .int .i64 0, str [], .int .i64 0]) (by kernel_rfl)) rfl rfl rfl ?_
  rintro _ h2 ⟨rfl, hn3⟩
  have hk4 : Blk h2 h1.size [.int .i64 0, str [], .int .i64 0, str [], .int .i64 0] := hn3.blk
  refine L_yld (Y_assign rfl) rfl rfl rfl ?_
  refine L_nil ?_
  refine X_then ?_
  refine W_sub _ (.cons (i := 5) rfl (.cons (i := 4) rfl (.cons (i := 2) rfl (.cons (i := 1) rfl (.nil _))))) ?_
  refine W_seq ?_
  refine W_region ?_
  refine L_yld (Y_assign rfl) rfl rfl rfl ?_
  refine L_nil ?_
  refine X_then ?_
  refine W_seq ?_
  refine W_seq ?_
  refine W_region ?_
  refine L_yld (Y_move rfl) rfl rfl rfl ?_
  refine L_yld (Y_lenr Tryd.underlying22 rfl (hl.ext (hn1.ext.trans hn3.ext))) rfl rfl rfl ?_
  refine L_yld (Y_gtr rfl rfl) rfl rfl rfl ?_
  refine L_nil ?_
  refine X_then ?_
  refine W_sub _ (.cons (i := 18) rfl (.cons (i := 6) rfl (.cons (i := 5) rfl (.cons (i := 4) rfl (.cons (i := 2) rfl (.cons (i := 1) rfl (.nil _))))))) ?_
  refine W_known true rfl (by exact decide_eq_true (by omega)) ?_
  refine W_region ?_
  refine L_yld (Y_assign rfl) rfl rfl rfl ?_
  refine L_nil ?_
  refine X_then ?_
  refine W_sub _ (.cons (i := 6) rfl (.cons (i := 5) rfl (.cons (i := 4) rfl (.cons (i := 2) rfl (.cons (i := 1) rfl (.nil _)))))) ?_
  refine W_seq ?_
  refine W_pers [(6, .int .i64 17), (5, .int .i64 0), (4, .pointer (some ⟨h1.size, 0, none⟩)), (2, .pointer (some ⟨h.size, 0, none⟩)), (1, w)] (.cons (i := 6) rfl (.cons (i := 5) rfl (.cons (i := 4) rfl (.cons (i := 2) rfl (.cons (i := 1) rfl (.nil _)))))) (by kernel_rfl) ?_
  refine LP_op 0 (fun _ vv => .pointer (some ⟨h.size, 0 + 2, none⟩) = vv) [] rfl rfl (by kernel_rfl) (fun _ _ _ _ p => p) ?_ ?_
  · intro h3 hx5
    refine Needs_nil ?_
    refine Stp_yld (Y_fieldAddr (off := 2) (by kernel_rfl) rfl rfl) rfl ?_
    exact rfl
  refine LP_op 1 (fun _ vv => str pr = vv) [(0, 19)] rfl rfl (by kernel_rfl) (fun _ _ _ _ p => p) ?_ ?_
  · intro h4 hx6
    rintro _ rfl
    refine Needs_nil ?_
    refine Stp_yld (Y_ldblk Tryd.underlying9 rfl rfl (hk2.ext (hn3.ext.trans hx6)) rfl) rfl ?_
    exact rfl
  refine LP_op 2 (fun _ vv => .pointer (some ⟨h.size, 0 + 1, none⟩) = vv) [] rfl rfl (by kernel_rfl) (fun _ _ _ _ p => p) ?_ ?_
  · intro h5 hx7
    refine Needs_nil ?_
    refine Stp_yld (Y_fieldAddr (off := 1) (by kernel_rfl) rfl rfl) rfl ?_
    exact rfl
  refine LP_op 3 (fun _ vv => str nm = vv) [(2, 21)] rfl rfl (by kernel_rfl) (fun _ _ _ _ p => p) ?_ ?_
  · intro h6 hx8
    rintro _ rfl
    refine Needs_nil ?_
    refine Stp_yld (Y_ldblk Tryd.underlying9 rfl rfl (hk2.ext (hn3.ext.trans hx8)) rfl) rfl ?_
    exact rfl
  refine LP_op 4 (fun _ vv => str (pjoin pr nm) = vv) [(1, 20), (3, 22)] rfl rfl (by kernel_rfl) (fun _ _ _ _ p => p) ?_ ?_
  · intro h7 hx9
    rintro _ rfl
    rintro _ rfl
    refine Needs_nil ?_
    refine Stp_call (E_call (by kernel_rfl) rfl) (ref08_Join _ pr nm (by first | first | omega | (simp; done) | (simp; omega) | rfl | (simp <;> omega))) rfl ?_
    rintro _ h7 ⟨rfl, rfl⟩
    exact ⟨(Ext.refl _), rfl⟩
  refine LP_op 5 (fun _ vv => .pointer (some ⟨h.size, 0 + 4, none⟩) = vv) [] rfl rfl (by kernel_rfl) (fun _ _ _ _ p => p) ?_ ?_
  · intro h8 hx10
    refine Needs_nil ?_
    refine Stp_yld (Y_fieldAddr (off := 4) (by kernel_rfl) rfl rfl) rfl ?_
    exact rfl
  refine LP_op 6 (fun _ vv => .int .i64 (md) = vv) [(5, 24)] rfl rfl (by kernel_rfl) (fun _ _ _ _ p => p) ?_ ?_
  · intro h9 hx11
    rintro _ rfl
    refine Needs_nil ?_
    refine Stp_yld (Y_ldblk Tryd.underlying3 rfl rfl (hk2.ext (hn3.ext.trans hx11)) rfl) rfl ?_
    exact rfl
  refine LP_op 7 (fun _ vv => .pointer (some ⟨h.size, 0 + 3, none⟩) = vv) [] rfl rfl (by kernel_rfl) (fun _ _ _ _ p => p) ?_ ?_
  · intro h10 hx12
    refine Needs_nil ?_
    refine Stp_yld (Y_fieldAddr (off := 3) (by kernel_rfl) rfl rfl) rfl ?_
    exact rfl
  refine LP_op 8 (fun _ vv => str lk = vv) [(7, 26)] rfl rfl (by kernel_rfl) (fun _ _ _ _ p => p) ?_ ?_
  · intro h11 hx13
    rintro _ rfl
    refine Needs_nil ?_
    refine Stp_yld (Y_ldblk Tryd.underlying9 rfl rfl (hk2.ext (hn3.ext.trans hx13)) rfl) rfl ?_
    exact rfl
  refine LP_op 9 (fun _ vv => .pointer (some ⟨h.size, 0 + 5, none⟩) = vv) [] rfl rfl (by kernel_rfl) (fun _ _ _ _ p => p) ?_ ?_
  · intro h12 hx14
    refine Needs_nil ?_
    refine Stp_yld (Y_fieldAddr (off := 5) (by kernel_rfl) rfl rfl) rfl ?_
    exact rfl
  refine LP_op 10 (fun _ vv => .int .i64 (sz) = vv) [(9, 28)] rfl rfl (by kernel_rfl) (fun _ _ _ _ p => p) ?_ ?_
  · intro h13 hx15
    rintro _ rfl
    refine Needs_nil ?_
    refine Stp_yld (Y_ldblk Tryd.underlying2 rfl rfl (hk2.ext (hn3.ext.trans hx15)) rfl) rfl ?_
    exact rfl
  refine LP_op 11 (fun _ vv => .agg #[.int .i64 (-1), str (pjoin pr nm), .int .i64 (md), str lk, .int .i64 (sz)] = vv) [(6, 25), (8, 27), (10, 29), (4, 23)] rfl rfl (by kernel_rfl) (fun _ _ _ _ p => p) ?_ ?_
  · intro h14 hx16
    rintro _ rfl
    rintro _ rfl
    rintro _ rfl
    rintro _ rfl
    refine Needs_nil ?_
    refine Stp_yld (Y_build (v := .agg #[.int .i64 (-1), str (pjoin pr nm), .int .i64 (md), str lk, .int .i64 (sz)]) (pv := [(0, .int .i64 (-1)), (1, str (pjoin pr nm)), (2, .int .i64 (md)), (3, str lk), (4, .int .i64 (sz))]) (evp (is := [0, 1, 2, 3, 4]) (os := [.const (.int .i64 (-1)), .tmp 23, .tmp 25, .tmp 27, .tmp 29]) (vs := [.int .i64 (-1), str (pjoin pr nm), .int .i64 (md), str lk, .int .i64 (sz)]) rfl rfl) (fun _ => by kernel_rfl)) rfl ?_
    exact rfl
  refine LP_op 12 (fun hh vv => ∃ r4_1, vv = .pointer (some ⟨r4_1, 0, none⟩) ∧ Blk hh r4_1 [.int .i64 0, str [], .int .i64 0, str [], .int .i64 0] ∧ h2.size ≤ r4_1) [] rfl rfl (by kernel_rfl) (fun _ _ _ x_ p_ => by obtain ⟨r4_1, rfl, q4_1, q4_1l⟩ := p_; exact ⟨_, rfl, q4_1.ext x_, q4_1l⟩) ?_ ?_
  · intro h15 hx17
    refine Needs_nil ?_
    refine Stp_mks (M_alloc (u := .agg #[.int .i64 0, str [], .int .i64 0, str [], .int .i64 0]) (by kernel_rfl)) rfl ?_
    rintro _ h16 ⟨rfl, hn18⟩
    have hk19 : Blk h16 h15.size [.int .i64 0, str [], .int .i64 0, str [], .int .i64 0] := hn18.blk
    exact ⟨hn18.ext, ⟨h15.size, rfl, hk19, hx17.size⟩⟩
  refine LP_tail rfl 13 [(11, 30), (12, 7)] rfl rfl (by kernel_rfl) (by kernel_rfl) (by kernel_rfl) rfl ?_
  intro h17 hx20
  rintro _ rfl
  rintro _ ⟨r4_1, rfl, q4_1, q4_1l⟩
  refine Needs_nil ?_
  refine L_dos (D_store (us := [.int .i64 (-1), str (pjoin pr nm), .int .i64 (md), str lk, .int .i64 (sz)]) (show _ = some 5 by kernel_rfl) rfl rfl rfl (by simp [Value.oneCell']) q4_1 (by simp)) rfl rfl ?_
  rintro h18 hp21
  have hk22 : Blk h18 r4_1 [.int .i64 (-1), str (pjoin pr nm), .int .i64 (md), str lk, .int .i64 (sz)] := hp21.blk
  refine L_nil ?_
  refine X_then ?_
  refine W_sub _ (.cons (i := 7) rfl (.cons (i := 6) rfl (.cons (i := 5) rfl (.cons (i := 4) rfl (.cons (i := 2) rfl (.cons (i := 1) rfl (.nil _))))))) ?_
  refine W_seq ?_
  refine W_region ?_
  refine L_mks (M_litb (l := [53, 48, 50, 49]) (cells := [.int .u8 53, .int .u8 48, .int .u8 50, .int .u8 49]) (pv := [(0, .int .u8 53), (1, .int .u8 48), (2, .int .u8 50), (3, .int .u8 49)]) (E := 5) (evp (is := [0, 1, 2, 3]) (os := [.const (.int .u8 53), .const (.int .u8 48), .const (.int .u8 50), .const (.int .u8 49)]) (vs := [.int .u8 53, .int .u8 48, .int .u8 50, .int .u8 49]) rfl rfl) rfl rfl (fun _ => by kernel_rfl)) rfl rfl rfl ?_
  rintro v23 h19 ⟨ho24, hx25⟩
  refine L_yld (Y_assign rfl) rfl rfl rfl ?_
  refine L_nil ?_
  refine X_then ?_
  refine W_sub _ (.cons (i := 8) rfl (.cons (i := 7) rfl (.cons (i := 6) rfl (.cons (i := 5) rfl (.cons (i := 4) rfl (.cons (i := 2) rfl (.cons (i := 1) rfl (.nil _)))))))) ?_
  refine W_seq ?_
  refine W_seq ?_
  refine W_region ?_
  refine L_yld (Y_assign rfl) rfl rfl rfl ?_
  refine L_nil ?_
  refine X_then ?_
  refine W_block ?_
  refine W_loop (S := Nat) (fun i => [(8, v23), (7, .pointer (some ⟨r4_1, 0, none⟩)), (6, .int .i64 17), (5, .int .i64 0), (4, .pointer (some ⟨h1.size, 0, none⟩)), (2, .pointer (some ⟨h.size, 0, none⟩)), (1, w), (9, .int .i64 ((i : Int)))]) (fun i h' => i ≤ 4 ∧ Only [r4_1] h19 h' ∧ Blk h' r4_1 [.int .i64 (kof ty i), str (pjoin pr nm), .int .i64 md, str lk, .int .i64 sz]) (fun i => 4 - i) 0 (.cons (i := 8) rfl (.cons (i := 7) rfl (.cons (i := 6) rfl (.cons (i := 5) rfl (.cons (i := 4) rfl (.cons (i := 2) rfl (.cons (i := 1) rfl (.cons (i := 9) rfl (.nil _))))))))) ?_ ?_
  · exact ⟨by omega, Only.refl _ _, (hk22.ext hx25)⟩
  rintro i h20 ⟨hi, hx, hbb⟩
  show W _ _ _ _ _ [(8, v23), (7, .pointer (some ⟨r4_1, 0, none⟩)), (6, .int .i64 17), (5, .int .i64 0), (4, .pointer (some ⟨h1.size, 0, none⟩)), (2, .pointer (some ⟨h.size, 0, none⟩)), (1, w), (9, .int .i64 ((i : Int)))] _
  refine W_seq ?_
  refine W_seq ?_
  refine W_region ?_
  refine L_yld (Y_move rfl) rfl rfl rfl ?_
  refine L_yld (Y_lss rfl rfl) rfl rfl rfl ?_
  refine L_nil ?_
  refine X_then ?_
  refine W_sub _ (.cons (i := 33) rfl (.cons (i := 8) rfl (.cons (i := 7) rfl (.cons (i := 6) rfl (.cons (i := 5) rfl (.cons (i := 4) rfl (.cons (i := 2) rfl (.cons (i := 1) rfl (.cons (i := 9) rfl (.nil _)))))))))) ?_
  refine W_splitd rfl (fun h4 => ?_) (fun h4 => ?_)
  · refine W_skip ?_
    refine X_then ?_
    refine W_sub _ (.cons (i := 8) rfl (.cons (i := 7) rfl (.cons (i := 6) rfl (.cons (i := 5) rfl (.cons (i := 4) rfl (.cons (i := 2) rfl (.cons (i := 1) rfl (.cons (i := 9) rfl (.nil _))))))))) ?_
    refine W_seq ?_
    refine W_block ?_
    refine W_seq ?_
    refine W_quiet (fun h' => h' = h20) (by kernel_rfl) (by kernel_rfl) rfl ?_
    refine LQ_yld (fun h_ hI_ => by subst hI_; exact Y_move rfl) rfl rfl rfl ?_
    refine LQ_yld (fun h_ hI_ => by subst hI_; exact Y_move rfl) rfl rfl rfl ?_
    refine LQ_yld (fun h_ hI_ => by subst hI_; exact Y_idx Tryd.underlying23 (show _ = some 1 by kernel_rfl) rfl rfl (ho24.only1 hx (Nat.lt_of_lt_of_le q4_1.lt hp21.only.size)).bytes (by first | omega | (simp; done) | (simp; omega)) (by first | omega | (simp; done) | (simp; omega))) rfl rfl rfl ?_
    refine LQ_yld (fun h_ hI_ => by subst hI_; exact Y_ldbyte Tryd.underlying5 rfl rfl (ho24.only1 hx (Nat.lt_of_lt_of_le q4_1.lt hp21.only.size)).bytes (by first | omega | (simp; done) | (simp; omega)) (by first | omega | (simp; done) | (simp; omega))) rfl rfl rfl ?_
    refine LQ_yld (fun h_ hI_ => by subst hI_; exact Y_fieldAddr (off := 0) (by kernel_rfl) rfl rfl) rfl rfl rfl ?_
    refine LQ_yld (fun h_ hI_ => by subst hI_; exact Y_ldblk Tryd.underlying5 rfl rfl (hk2.ext ((((hn3.ext.trans hx20).then' hp21.only (by simp) (Nat.le_trans hn3.ext.size q4_1l)).trans hx25).then' hx (by simp) (Nat.le_trans hn3.ext.size q4_1l))) rfl) rfl rfl rfl ?_
    refine LQ_yld (fun h_ hI_ => by subst hI_; exact Y_eql rfl rfl) rfl rfl rfl ?_
    refine LQ_nil ?_
    rintro h20 rfl
    refine X_then ?_
    refine W_sub _ (.cons (i := 42) rfl (.cons (i := 8) rfl (.cons (i := 7) rfl (.cons (i := 6) rfl (.cons (i := 5) rfl (.cons (i := 4) rfl (.cons (i := 2) rfl (.cons (i := 1) rfl (.cons (i := 9) rfl (.nil _)))))))))) ?_
    refine W_splitd rfl (fun hy => ?_) (fun hy => ?_)
    · have hy : (byt [53, 48, 50, 49] ((i : Int)).toNat) = ty := hy
      refine W_region ?_
      refine L_yld (Y_move rfl) rfl rfl rfl ?_
      refine L_yld (Y_fieldAddr (off := 0) (by kernel_rfl) rfl rfl) rfl rfl rfl ?_
      refine L_dos (D_store (us := [.int .i64 ((i : Int))]) (show _ = some 1 by kernel_rfl) rfl rfl rfl (by simp [Value.oneCell']) hbb (by simp)) rfl rfl ?_
      rintro h21 hp26
      have hk27 : Blk h21 r4_1 [.int .i64 ((i : Int)), str (pjoin pr nm), .int .i64 (md), str lk, .int .i64 (sz)] := hp26.blk
      refine L_nil ?_
      refine X_block ?_
      refine X_then ?_
      refine W_sub _ (.cons (i := 8) rfl (.cons (i := 7) rfl (.cons (i := 6) rfl (.cons (i := 5) rfl (.cons (i := 4) rfl (.cons (i := 2) rfl (.cons (i := 1) rfl (.cons (i := 9) rfl (.nil _))))))))) ?_
      refine W_region ?_
      refine L_yld (Y_move rfl) rfl rfl rfl ?_
      refine L_yld (Y_add rfl rfl (by first | omega | (simp; done) | (simp; omega)) (by first | omega | (simp; done) | (simp; omega))) rfl rfl rfl ?_
      refine L_yld (Y_assign rfl) rfl rfl rfl ?_
      refine L_nil ?_
      refine X_loop (i + 1) (.cons (i := 8) rfl (.cons (i := 7) rfl (.cons (i := 6) rfl (.cons (i := 5) rfl (.cons (i := 4) rfl (.cons (i := 2) rfl (.cons (i := 1) rfl (.cons (i := 9) rfl (.nil _))))))))) ?_ ?_
      · exact ⟨by omega, (Only.trans (Only.trans (Only.refl _ _) hx (fun _ hb_ => .inl hb_)) hp26.only (fun _ hb_ => .inl hb_)), by rw [kof_yes (i := i) hy]; exact hk27⟩
      · (try dsimp only)
        omega
    · have hy : ¬ ((byt [53, 48, 50, 49] ((i : Int)).toNat) = ty) := hy
      refine W_skip ?_
      refine X_block ?_
      refine X_then ?_
      refine W_sub _ (.cons (i := 8) rfl (.cons (i := 7) rfl (.cons (i := 6) rfl (.cons (i := 5) rfl (.cons (i := 4) rfl (.cons (i := 2) rfl (.cons (i := 1) rfl (.cons (i := 9) rfl (.nil _))))))))) ?_
      refine W_region ?_
      refine L_yld (Y_move rfl) rfl rfl rfl ?_
      refine L_yld (Y_add rfl rfl (by first | omega | (simp; done) | (simp; omega)) (by first | omega | (simp; done) | (simp; omega))) rfl rfl rfl ?_
      refine L_yld (Y_assign rfl) rfl rfl rfl ?_
      refine L_nil ?_
      refine X_loop (i + 1) (.cons (i := 8) rfl (.cons (i := 7) rfl (.cons (i := 6) rfl (.cons (i := 5) rfl (.cons (i := 4) rfl (.cons (i := 2) rfl (.cons (i := 1) rfl (.cons (i := 9) rfl (.nil _))))))))) ?_ ?_
      · exact ⟨by omega, (Only.trans (Only.refl _ _) hx (fun _ hb_ => .inl hb_)), by rw [kof_no (i := i) hy]; exact hbb⟩
      · (try dsimp only)
        omega
  · refine W_exit ?_
    refine X_then_exit ?_
    refine X_then_exit ?_
    refine X_block_hit ?_
    refine X_then ?_
    refine W_sub _ (.cons (i := 7) rfl (.cons (i := 6) rfl (.cons (i := 5) rfl (.cons (i := 4) rfl (.cons (i := 2) rfl (.cons (i := 1) rfl (.nil _))))))) ?_
    obtain rfl : i = 4 := by omega
    have hkm := kof_mkind hty
    refine W_seq ?_
    refine W_seq ?_
    refine W_region ?_
    refine L_yld (Y_assign rfl) rfl rfl rfl ?_
    refine L_nil ?_
    refine X_then ?_
    refine W_block ?_
    refine W_loop (S := Nat × List UInt8 × List UInt8 × Int) (fun (i, p, tg, z) => [(7, .pointer (some ⟨r4_1, 0, none⟩)), (6, .int .i64 17), (4, .pointer (some ⟨h1.size, 0, none⟩)), (2, .pointer (some ⟨h.size, 0, none⟩)), (1, w), (10, .int .i64 ((i : Int)))]) (fun (i, p, tg, z) h' => (i ≤ l.length ∧ rfold l (pjoin pr nm) lk sz = rfold (l.drop i) p tg z ∧ p.length ≤ 140737488355328 ∧ tg.length ≤ 140737488355328 ∧ -9223372036854775808 ≤ z ∧ z ≤ 9223372036854775807) ∧ Only [r4_1] h20 h' ∧ Blk h' r4_1 [.int .i64 (kof ty 4), str p, .int .i64 md, str tg, .int .i64 z]) (fun (i, p, tg, z) => l.length - i) (0, pjoin pr nm, lk, sz) (.cons (i := 7) rfl (.cons (i := 6) rfl (.cons (i := 4) rfl (.cons (i := 2) rfl (.cons (i := 1) rfl (.cons (i := 10) rfl (.nil _))))))) ?_ ?_
    · exact ⟨⟨by omega, rfl, by have := pjoin_len pr nm; show (pjoin pr nm).length ≤ _; omega, hlk, hsz.1, hsz.2⟩, Only.refl _ _, hbb⟩
    rintro ⟨i, p, tg, z⟩ h22 ⟨⟨hi, hf, hp9, ht9, hz8, hz9⟩, hx2, hbb2⟩
    show W _ _ _ _ _ [(7, .pointer (some ⟨r4_1, 0, none⟩)), (6, .int .i64 17), (4, .pointer (some ⟨h1.size, 0, none⟩)), (2, .pointer (some ⟨h.size, 0, none⟩)), (1, w), (10, .int .i64 ((i : Int)))] _
    refine W_seq ?_
    refine W_seq ?_
    refine W_region ?_
    refine L_yld (Y_move rfl) rfl rfl rfl ?_
    refine L_yld (Y_move rfl) rfl rfl rfl ?_
    refine L_yld (Y_lenr Tryd.underlying22 rfl (hl.ext ((((((hn1.ext.trans hn3.ext).trans hx20).then' hp21.only (by simp) (Nat.le_trans (Nat.le_trans hn1.ext.size hn3.ext.size) q4_1l)).trans hx25).then' hx (by simp) (Nat.le_trans (Nat.le_trans hn1.ext.size hn3.ext.size) q4_1l)).then' hx2 (by simp) (Nat.le_trans (Nat.le_trans hn1.ext.size hn3.ext.size) q4_1l)))) rfl rfl rfl ?_
    refine L_yld (Y_lss rfl rfl) rfl rfl rfl ?_
    refine L_nil ?_
    refine X_then ?_
    refine W_sub _ (.cons (i := 48) rfl (.cons (i := 7) rfl (.cons (i := 6) rfl (.cons (i := 4) rfl (.cons (i := 2) rfl (.cons (i := 1) rfl (.cons (i := 10) rfl (.nil _)))))))) ?_
    refine W_splitd rfl (fun hlt => ?_) (fun hlt => ?_)
    · refine W_skip ?_
      refine X_then ?_
      refine W_sub _ (.cons (i := 7) rfl (.cons (i := 6) rfl (.cons (i := 4) rfl (.cons (i := 2) rfl (.cons (i := 1) rfl (.cons (i := 10) rfl (.nil _))))))) ?_
      have hlt9 : i < l.length := by omega
      have hv9 : (at_rec l (i : Int).toNat).val.length ≤ 140737488355328 := mrec_len hs hlt9
      refine W_seq ?_
      refine W_block ?_
      refine W_seq ?_
      refine W_region ?_
      refine L_yld (Y_move rfl) rfl rfl rfl ?_
      refine L_yld (Y_move rfl) rfl rfl rfl ?_
      refine L_yld (Y_idxr Tryd.underlying22 (show _ = some 2 by kernel_rfl) rfl rfl rfl (hl.ext ((((((hn1.ext.trans hn3.ext).trans hx20).then' hp21.only (by simp) (Nat.le_trans (Nat.le_trans hn1.ext.size hn3.ext.size) q4_1l)).trans hx25).then' hx (by simp) (Nat.le_trans (Nat.le_trans hn1.ext.size hn3.ext.size) q4_1l)).then' hx2 (by simp) (Nat.le_trans (Nat.le_trans hn1.ext.size hn3.ext.size) q4_1l))) (by first | omega | (simp; done) | (simp; omega)) (by first | omega | (simp; done) | (simp; omega))) rfl rfl rfl ?_
      refine L_yld (Y_fldr (k := ((i : Int)).toNat) (off := 0) (by kernel_rfl) rfl (hl.ext ((((((hn1.ext.trans hn3.ext).trans hx20).then' hp21.only (by simp) (Nat.le_trans (Nat.le_trans hn1.ext.size hn3.ext.size) q4_1l)).trans hx25).then' hx (by simp) (Nat.le_trans (Nat.le_trans hn1.ext.size hn3.ext.size) q4_1l)).then' hx2 (by simp) (Nat.le_trans (Nat.le_trans hn1.ext.size hn3.ext.size) q4_1l))) (by first | omega | (simp; done) | (simp; omega))) rfl rfl rfl ?_
      refine L_yld (Y_ldr1 (off := 0) (k := ((i : Int)).toNat) Tryd.underlying9 rfl rfl rfl (hl.ext ((((((hn1.ext.trans hn3.ext).trans hx20).then' hp21.only (by simp) (Nat.le_trans (Nat.le_trans hn1.ext.size hn3.ext.size) q4_1l)).trans hx25).then' hx (by simp) (Nat.le_trans (Nat.le_trans hn1.ext.size hn3.ext.size) q4_1l)).then' hx2 (by simp) (Nat.le_trans (Nat.le_trans hn1.ext.size hn3.ext.size) q4_1l))) (by first | omega | (simp; done) | (simp; omega)) rfl) rfl rfl rfl ?_
      refine L_nil ?_
      refine X_then ?_
      refine W_sub _ (.cons (i := 55) rfl (.cons (i := 7) rfl (.cons (i := 6) rfl (.cons (i := 4) rfl (.cons (i := 2) rfl (.cons (i := 1) rfl (.cons (i := 10) rfl (.nil _)))))))) ?_
      refine W_block ?_
      refine W_seq ?_
      refine W_region ?_
      refine L_yld (Y_seql rfl rfl) rfl rfl rfl ?_
      refine L_yld (Y_assign rfl) rfl rfl rfl ?_
      refine L_nil ?_
      refine X_then ?_
      refine W_sub _ (.cons (i := 56) rfl (.cons (i := 55) rfl (.cons (i := 7) rfl (.cons (i := 6) rfl (.cons (i := 4) rfl (.cons (i := 2) rfl (.cons (i := 1) rfl (.cons (i := 10) rfl (.nil _))))))))) ?_
      refine W_splitd rfl (fun k1 => ?_) (fun k1 => ?_)
      · refine W_region ?_
        refine L_yld (Y_move rfl) rfl rfl rfl ?_
        refine L_yld (Y_move rfl) rfl rfl rfl ?_
        refine L_yld (Y_idxr Tryd.underlying22 (show _ = some 2 by kernel_rfl) rfl rfl rfl (hl.ext ((((((hn1.ext.trans hn3.ext).trans hx20).then' hp21.only (by simp) (Nat.le_trans (Nat.le_trans hn1.ext.size hn3.ext.size) q4_1l)).trans hx25).then' hx (by simp) (Nat.le_trans (Nat.le_trans hn1.ext.size hn3.ext.size) q4_1l)).then' hx2 (by simp) (Nat.le_trans (Nat.le_trans hn1.ext.size hn3.ext.size) q4_1l))) (by first | omega | (simp; done) | (simp; omega)) (by first | omega | (simp; done) | (simp; omega))) rfl rfl rfl ?_
        refine L_yld (Y_fldr (k := ((i : Int)).toNat) (off := 1) (by kernel_rfl) rfl (hl.ext ((((((hn1.ext.trans hn3.ext).trans hx20).then' hp21.only (by simp) (Nat.le_trans (Nat.le_trans hn1.ext.size hn3.ext.size) q4_1l)).trans hx25).then' hx (by simp) (Nat.le_trans (Nat.le_trans hn1.ext.size hn3.ext.size) q4_1l)).then' hx2 (by simp) (Nat.le_trans (Nat.le_trans hn1.ext.size hn3.ext.size) q4_1l))) (by first | omega | (simp; done) | (simp; omega))) rfl rfl rfl ?_
        refine L_yld (Y_ldr1 (off := 1) (k := ((i : Int)).toNat) Tryd.underlying9 rfl rfl rfl (hl.ext ((((((hn1.ext.trans hn3.ext).trans hx20).then' hp21.only (by simp) (Nat.le_trans (Nat.le_trans hn1.ext.size hn3.ext.size) q4_1l)).trans hx25).then' hx (by simp) (Nat.le_trans (Nat.le_trans hn1.ext.size hn3.ext.size) q4_1l)).then' hx2 (by simp) (Nat.le_trans (Nat.le_trans hn1.ext.size hn3.ext.size) q4_1l))) (by first | omega | (simp; done) | (simp; omega)) rfl) rfl rfl rfl ?_
        refine L_yld (Y_fieldAddr (off := 3) (by kernel_rfl) rfl rfl) rfl rfl rfl ?_
        refine L_dos (D_store (us := [str ((at_rec l ((i : Int)).toNat).val)]) (show _ = some 1 by kernel_rfl) rfl rfl rfl (by simp [Value.oneCell']) hbb2 (by simp)) rfl rfl ?_
        rintro h23 hp28
        have hk29 : Blk h23 r4_1 [.int .i64 ((kof ty 4)), str p, .int .i64 (md), str ((at_rec l ((i : Int)).toNat).val), .int .i64 (z)] := hp28.blk
        refine L_nil ?_
        refine X_block ?_
        refine X_block ?_
        refine X_then ?_
        refine W_sub _ (.cons (i := 7) rfl (.cons (i := 6) rfl (.cons (i := 4) rfl (.cons (i := 2) rfl (.cons (i := 1) rfl (.cons (i := 10) rfl (.nil _))))))) ?_
        refine W_region ?_
        refine L_yld (Y_move rfl) rfl rfl rfl ?_
        refine L_yld (Y_add rfl rfl (by first | omega | (simp; done) | (simp; omega)) (by first | omega | (simp; done) | (simp; omega))) rfl rfl rfl ?_
        refine L_yld (Y_assign rfl) rfl rfl rfl ?_
        refine L_nil ?_
        refine X_loop ((i + 1, p, (at_rec l i).val, z)) (.cons (i := 7) rfl (.cons (i := 6) rfl (.cons (i := 4) rfl (.cons (i := 2) rfl (.cons (i := 1) rfl (.cons (i := 10) rfl (.nil _))))))) ?_ ?_
        · exact ⟨⟨by omega, by rw [hf]; exact rfold_link hlt9 k1 _ _ _, hp9, hv9, hz8, hz9⟩, (Only.trans (Only.trans (Only.refl _ _) hx2 (fun _ hb_ => .inl hb_)) hp28.only (fun _ hb_ => .inl hb_)), hk29⟩
        · (try dsimp only)
          omega
      · refine W_seq ?_
        refine W_region ?_
        refine L_yld (Y_seql rfl rfl) rfl rfl rfl ?_
        refine L_yld (Y_assign rfl) rfl rfl rfl ?_
        refine L_nil ?_
        refine X_then ?_
        refine W_sub _ (.cons (i := 64) rfl (.cons (i := 55) rfl (.cons (i := 7) rfl (.cons (i := 6) rfl (.cons (i := 4) rfl (.cons (i := 2) rfl (.cons (i := 1) rfl (.cons (i := 10) rfl (.nil _))))))))) ?_
        refine W_splitd rfl (fun k2 => ?_) (fun k2 => ?_)
        · refine W_region ?_
          refine L_yld (Y_move rfl) rfl rfl rfl ?_
          refine L_yld (Y_move rfl) rfl rfl rfl ?_
          refine L_yld (Y_idxr Tryd.underlying22 (show _ = some 2 by kernel_rfl) rfl rfl rfl (hl.ext ((((((hn1.ext.trans hn3.ext).trans hx20).then' hp21.only (by simp) (Nat.le_trans (Nat.le_trans hn1.ext.size hn3.ext.size) q4_1l)).trans hx25).then' hx (by simp) (Nat.le_trans (Nat.le_trans hn1.ext.size hn3.ext.size) q4_1l)).then' hx2 (by simp) (Nat.le_trans (Nat.le_trans hn1.ext.size hn3.ext.size) q4_1l))) (by first | omega | (simp; done) | (simp; omega)) (by first | omega | (simp; done) | (simp; omega))) rfl rfl rfl ?_
          refine L_yld (Y_fldr (k := ((i : Int)).toNat) (off := 1) (by kernel_rfl) rfl (hl.ext ((((((hn1.ext.trans hn3.ext).trans hx20).then' hp21.only (by simp) (Nat.le_trans (Nat.le_trans hn1.ext.size hn3.ext.size) q4_1l)).trans hx25).then' hx (by simp) (Nat.le_trans (Nat.le_trans hn1.ext.size hn3.ext.size) q4_1l)).then' hx2 (by simp) (Nat.le_trans (Nat.le_trans hn1.ext.size hn3.ext.size) q4_1l))) (by first | omega | (simp; done) | (simp; omega))) rfl rfl rfl ?_
          refine L_yld (Y_ldr1 (off := 1) (k := ((i : Int)).toNat) Tryd.underlying9 rfl rfl rfl (hl.ext ((((((hn1.ext.trans hn3.ext).trans hx20).then' hp21.only (by simp) (Nat.le_trans (Nat.le_trans hn1.ext.size hn3.ext.size) q4_1l)).trans hx25).then' hx (by simp) (Nat.le_trans (Nat.le_trans hn1.ext.size hn3.ext.size) q4_1l)).then' hx2 (by simp) (Nat.le_trans (Nat.le_trans hn1.ext.size hn3.ext.size) q4_1l))) (by first | omega | (simp; done) | (simp; omega)) rfl) rfl rfl rfl ?_
          refine L_yld (Y_fieldAddr (off := 1) (by kernel_rfl) rfl rfl) rfl rfl rfl ?_
          refine L_dos (D_store (us := [str ((at_rec l ((i : Int)).toNat).val)]) (show _ = some 1 by kernel_rfl) rfl rfl rfl (by simp [Value.oneCell']) hbb2 (by simp)) rfl rfl ?_
          rintro h24 hp30
          have hk31 : Blk h24 r4_1 [.int .i64 ((kof ty 4)), str ((at_rec l ((i : Int)).toNat).val), .int .i64 (md), str tg, .int .i64 (z)] := hp30.blk
          refine L_nil ?_
          refine X_block ?_
          refine X_block ?_
          refine X_then ?_
          refine W_sub _ (.cons (i := 7) rfl (.cons (i := 6) rfl (.cons (i := 4) rfl (.cons (i := 2) rfl (.cons (i := 1) rfl (.cons (i := 10) rfl (.nil _))))))) ?_
          refine W_region ?_
          refine L_yld (Y_move rfl) rfl rfl rfl ?_
          refine L_yld (Y_add rfl rfl (by first | omega | (simp; done) | (simp; omega)) (by first | omega | (simp; done) | (simp; omega))) rfl rfl rfl ?_
          refine L_yld (Y_assign rfl) rfl rfl rfl ?_
          refine L_nil ?_
          refine X_loop ((i + 1, (at_rec l i).val, tg, z)) (.cons (i := 7) rfl (.cons (i := 6) rfl (.cons (i := 4) rfl (.cons (i := 2) rfl (.cons (i := 1) rfl (.cons (i := 10) rfl (.nil _))))))) ?_ ?_
          · exact ⟨⟨by omega, by rw [hf]; exact rfold_path hlt9 k1 k2 _ _ _, hv9, ht9, hz8, hz9⟩, (Only.trans (Only.trans (Only.refl _ _) hx2 (fun _ hb_ => .inl hb_)) hp30.only (fun _ hb_ => .inl hb_)), hk31⟩
          · (try dsimp only)
            omega
        · refine W_seq ?_
          refine W_region ?_
          refine L_yld (Y_seql rfl rfl) rfl rfl rfl ?_
          refine L_yld (Y_assign rfl) rfl rfl rfl ?_
          refine L_nil ?_
          refine X_then ?_
          refine W_sub _ (.cons (i := 72) rfl (.cons (i := 7) rfl (.cons (i := 6) rfl (.cons (i := 4) rfl (.cons (i := 2) rfl (.cons (i := 1) rfl (.cons (i := 10) rfl (.nil _)))))))) ?_
          refine W_splitd rfl (fun k3 => ?_) (fun k3 => ?_)
          · refine W_seq ?_
            refine W_region ?_
            refine L_yld (Y_move rfl) rfl rfl rfl ?_
            refine L_yld (Y_move rfl) rfl rfl rfl ?_
            refine L_yld (Y_idxr Tryd.underlying22 (show _ = some 2 by kernel_rfl) rfl rfl rfl (hl.ext ((((((hn1.ext.trans hn3.ext).trans hx20).then' hp21.only (by simp) (Nat.le_trans (Nat.le_trans hn1.ext.size hn3.ext.size) q4_1l)).trans hx25).then' hx (by simp) (Nat.le_trans (Nat.le_trans hn1.ext.size hn3.ext.size) q4_1l)).then' hx2 (by simp) (Nat.le_trans (Nat.le_trans hn1.ext.size hn3.ext.size) q4_1l))) (by first | omega | (simp; done) | (simp; omega)) (by first | omega | (simp; done) | (simp; omega))) rfl rfl rfl ?_
            refine L_yld (Y_fldr (k := ((i : Int)).toNat) (off := 1) (by kernel_rfl) rfl (hl.ext ((((((hn1.ext.trans hn3.ext).trans hx20).then' hp21.only (by simp) (Nat.le_trans (Nat.le_trans hn1.ext.size hn3.ext.size) q4_1l)).trans hx25).then' hx (by simp) (Nat.le_trans (Nat.le_trans hn1.ext.size hn3.ext.size) q4_1l)).then' hx2 (by simp) (Nat.le_trans (Nat.le_trans hn1.ext.size hn3.ext.size) q4_1l))) (by first | omega | (simp; done) | (simp; omega))) rfl rfl rfl ?_
            refine L_yld (Y_ldr1 (off := 1) (k := ((i : Int)).toNat) Tryd.underlying9 rfl rfl rfl (hl.ext ((((((hn1.ext.trans hn3.ext).trans hx20).then' hp21.only (by simp) (Nat.le_trans (Nat.le_trans hn1.ext.size hn3.ext.size) q4_1l)).trans hx25).then' hx (by simp) (Nat.le_trans (Nat.le_trans hn1.ext.size hn3.ext.size) q4_1l)).then' hx2 (by simp) (Nat.le_trans (Nat.le_trans hn1.ext.size hn3.ext.size) q4_1l))) (by first | omega | (simp; done) | (simp; omega)) rfl) rfl rfl rfl ?_
            refine L_call (E_call (by kernel_rfl) rfl) (ref09_Number _ ((at_rec l ((i : Int)).toNat).val) (1099511627776 : Int) (by first | first | omega | (simp; done) | (simp; omega) | rfl | (simp <;> omega)) (by first | first | omega | (simp; done) | (simp; omega) | rfl | (simp <;> omega))) rfl rfl rfl ?_
            rintro _ h22 ⟨rfl, rfl⟩
            refine L_yld (Y_move rfl) rfl rfl rfl ?_
            refine L_yld (Y_extract (v := .int .i64 (nnum ((at_rec l ((i : Int)).toNat).val) (1099511627776 : Int))) rfl rfl) rfl rfl rfl ?_
            refine L_yld (Y_extract (v := .int .i64 (nerr ((at_rec l ((i : Int)).toNat).val) (1099511627776 : Int))) rfl rfl) rfl rfl rfl ?_
            refine L_yld (Y_assign rfl) rfl rfl rfl ?_
            refine L_yld (Y_assign rfl) rfl rfl rfl ?_
            refine L_nil ?_
            refine X_then ?_
            refine W_sub _ (.cons (i := 12) rfl (.cons (i := 11) rfl (.cons (i := 7) rfl (.cons (i := 6) rfl (.cons (i := 4) rfl (.cons (i := 2) rfl (.cons (i := 1) rfl (.cons (i := 10) rfl (.nil _))))))))) ?_
            refine W_seq ?_
            refine W_seq ?_
            refine W_region ?_
            refine L_yld (Y_move rfl) rfl rfl rfl ?_
            refine L_yld (Y_neq rfl rfl) rfl rfl rfl ?_
            refine L_nil ?_
            refine X_then ?_
            refine W_sub _ (.cons (i := 84) rfl (.cons (i := 11) rfl (.cons (i := 7) rfl (.cons (i := 6) rfl (.cons (i := 4) rfl (.cons (i := 2) rfl (.cons (i := 1) rfl (.cons (i := 10) rfl (.nil _))))))))) ?_
            refine W_splitd rfl (fun x9 => ?_) (fun x9 => ?_)
            · refine W_seq ?_
              refine W_region ?_
              refine L_yld (Y_build (v := .agg #[.int .i64 0, str [], .int .i64 0, str [], .int .i64 0]) (pv := []) (evp (is := []) (os := []) (vs := []) rfl rfl) (fun _ => by kernel_rfl)) rfl rfl rfl ?_
              refine L_yld (Y_move rfl) rfl rfl rfl ?_
              refine L_dos (D_store (us := [.int .i64 0, str [], .int .i64 0, str [], .int .i64 0]) (show _ = some 5 by kernel_rfl) rfl rfl rfl (by simp [Value.oneCell']) (hk4.ext ((((hx20.then' hp21.only (by simp) q4_1l).trans hx25).then' hx (by simp) q4_1l).then' hx2 (by simp) q4_1l)) (by simp)) rfl rfl ?_
              rintro h25 hp32
              have hk33 : Blk h25 h1.size [.int .i64 0, str [], .int .i64 0, str [], .int .i64 0] := hp32.blk
              refine L_yld (Y_assign rfl) rfl rfl rfl ?_
              refine L_nil ?_
              refine X_then ?_
              refine W_sub _ (.cons (i := 5) rfl (.cons (i := 11) rfl (.cons (i := 7) rfl (.cons (i := 6) rfl (.cons (i := 4) rfl (.cons (i := 2) rfl (.cons (i := 1) rfl (.cons (i := 10) rfl (.nil _))))))))) ?_
              refine W_ret ?_
              refine X_then_ret ?_
              refine X_block_ret ?_
              refine X_block_ret ?_
              refine X_then_ret ?_
              refine X_then_ret ?_
              refine X_block_ret ?_
              refine X_then_ret ?_
              refine X_retv2 rfl (RV.agg rfl Tryd.underlying46 rfl (show _ = some 5 by kernel_rfl) hk33) rfl ?_
              have hm := rres_none (ty := ty) (md := md) (hf.trans (rfold_bad hlt9 k1 k2 k3 x9 _ _ _))
              exact ⟨by rw [hm, oE_pos h0]; rfl, (((((((hn1.ext.trans hn3.ext).trans hx20).then' hp21.only (by simp) (Nat.le_trans (Nat.le_trans hn1.ext.size hn3.ext.size) q4_1l)).trans hx25).then' hx (by simp) (Nat.le_trans (Nat.le_trans hn1.ext.size hn3.ext.size) q4_1l)).then' hx2 (by simp) (Nat.le_trans (Nat.le_trans hn1.ext.size hn3.ext.size) q4_1l)).then' hp32.only (by simp) hn1.ext.size)⟩
            · refine W_skip ?_
              refine X_then ?_
              refine W_sub _ (.cons (i := 11) rfl (.cons (i := 7) rfl (.cons (i := 6) rfl (.cons (i := 4) rfl (.cons (i := 2) rfl (.cons (i := 1) rfl (.cons (i := 10) rfl (.nil _)))))))) ?_
              refine W_region ?_
              refine L_yld (Y_move rfl) rfl rfl rfl ?_
              refine L_yld (Y_fieldAddr (off := 4) (by kernel_rfl) rfl rfl) rfl rfl rfl ?_
              refine L_dos (D_store (us := [.int .i64 (nnum ((at_rec l ((i : Int)).toNat).val) (1099511627776 : Int))]) (show _ = some 1 by kernel_rfl) rfl rfl rfl (by simp [Value.oneCell']) hbb2 (by simp)) rfl rfl ?_
              rintro h26 hp34
              have hk35 : Blk h26 r4_1 [.int .i64 ((kof ty 4)), str p, .int .i64 (md), str tg, .int .i64 (nnum ((at_rec l ((i : Int)).toNat).val) (1099511627776 : Int))] := hp34.blk
              refine L_nil ?_
              refine X_block ?_
              refine X_block ?_
              refine X_then ?_
              refine W_sub _ (.cons (i := 7) rfl (.cons (i := 6) rfl (.cons (i := 4) rfl (.cons (i := 2) rfl (.cons (i := 1) rfl (.cons (i := 10) rfl (.nil _))))))) ?_
              refine W_region ?_
              refine L_yld (Y_move rfl) rfl rfl rfl ?_
              refine L_yld (Y_add rfl rfl (by first | omega | (simp; done) | (simp; omega)) (by first | omega | (simp; done) | (simp; omega))) rfl rfl rfl ?_
              refine L_yld (Y_assign rfl) rfl rfl rfl ?_
              refine L_nil ?_
              refine X_loop ((i + 1, p, tg, nnum (at_rec l i).val 1099511627776)) (.cons (i := 7) rfl (.cons (i := 6) rfl (.cons (i := 4) rfl (.cons (i := 2) rfl (.cons (i := 1) rfl (.cons (i := 10) rfl (.nil _))))))) ?_ ?_
              · have hz := nnum_range (at_rec l i).val
                exact ⟨⟨by omega, by rw [hf]; exact rfold_size hlt9 k1 k2 k3 (Classical.not_not.1 x9) _ _ _, hp9, ht9, hz.1, hz.2⟩, (Only.trans (Only.trans (Only.refl _ _) hx2 (fun _ hb_ => .inl hb_)) hp34.only (fun _ hb_ => .inl hb_)), hk35⟩
              · (try dsimp only)
                omega
          · refine W_skip ?_
            refine X_block ?_
            refine X_block ?_
            refine X_then ?_
            refine W_sub _ (.cons (i := 7) rfl (.cons (i := 6) rfl (.cons (i := 4) rfl (.cons (i := 2) rfl (.cons (i := 1) rfl (.cons (i := 10) rfl (.nil _))))))) ?_
            refine W_region ?_
            refine L_yld (Y_move rfl) rfl rfl rfl ?_
            refine L_yld (Y_add rfl rfl (by first | omega | (simp; done) | (simp; omega)) (by first | omega | (simp; done) | (simp; omega))) rfl rfl rfl ?_
            refine L_yld (Y_assign rfl) rfl rfl rfl ?_
            refine L_nil ?_
            refine X_loop ((i + 1, p, tg, z)) (.cons (i := 7) rfl (.cons (i := 6) rfl (.cons (i := 4) rfl (.cons (i := 2) rfl (.cons (i := 1) rfl (.cons (i := 10) rfl (.nil _))))))) ?_ ?_
            · exact ⟨⟨by omega, by rw [hf]; exact rfold_other hlt9 k1 k2 k3 _ _ _, hp9, ht9, hz8, hz9⟩, (Only.trans (Only.refl _ _) hx2 (fun _ hb_ => .inl hb_)), hbb2⟩
            · (try dsimp only)
              omega
    · refine W_exit ?_
      refine X_then_exit ?_
      refine X_then_exit ?_
      refine X_block_hit ?_
      refine X_then ?_
      refine W_sub _ (.cons (i := 7) rfl (.cons (i := 6) rfl (.cons (i := 4) rfl (.cons (i := 2) rfl (.cons (i := 1) rfl (.nil _)))))) ?_
      have hf1 := hf.trans (rfold_nil (by omega) _ _ _)
      refine W_seq ?_
      refine W_region ?_
      refine L_yld (Y_ldbox (us := [.int .i64 ((kof ty 4)), str p, .int .i64 (md), str tg, .int .i64 (z)]) Tryd.underlying46 rfl (show _ = some 5 by kernel_rfl) rfl hbb2 rfl) rfl rfl rfl ?_
      refine L_call (E_call (by kernel_rfl) rfl) (ref10_Plan _ (kof ty 4) p md tg z (by first | first | omega | (simp; done) | (simp; omega) | rfl | (simp <;> omega)) (by first | first | omega | (simp; done) | (simp; omega) | rfl | (simp <;> omega)) (by first | first | omega | (simp; done) | (simp; omega) | rfl | (simp <;> omega))) rfl rfl rfl ?_
      rintro _ h27 ⟨s136, rfl, hr137, hx38⟩
      refine L_yld (Y_move rfl) rfl rfl rfl ?_
      refine L_yld (Y_extract (v := .agg #[.int .u8 (fT (fcheck (kof ty 4) p md tg z) (kof ty 4)), str (fN (fcheck (kof ty 4) p md tg z) p), str (fP (fcheck (kof ty 4) p md tg z) p), str (fL (fcheck (kof ty 4) p md tg z) tg), .int .i64 (fM (fcheck (kof ty 4) p md tg z) md), .int .i64 (fZ (fcheck (kof ty 4) p md tg z) z)]) rfl rfl) rfl rfl rfl ?_
      refine L_yld (Y_extract (v := s136) rfl rfl) rfl rfl rfl ?_
      refine L_yld (Y_extract (v := .int .i64 (fcheck (kof ty 4) p md tg z)) rfl rfl) rfl rfl rfl ?_
      refine L_mks (M_alloc (u := .agg #[.int .u8 0, str [], str [], str [], .int .i64 0, .int .i64 0]) (by kernel_rfl)) rfl rfl rfl ?_
      rintro _ h28 ⟨rfl, hn39⟩
      have hk40 : Blk h28 h27.size [.int .u8 0, str [], str [], str [], .int .i64 0, .int .i64 0] := hn39.blk
      refine L_dos (D_store (us := [.int .u8 (fT (fcheck (kof ty 4) p md tg z) (kof ty 4)), str (fN (fcheck (kof ty 4) p md tg z) p), str (fP (fcheck (kof ty 4) p md tg z) p), str (fL (fcheck (kof ty 4) p md tg z) tg), .int .i64 (fM (fcheck (kof ty 4) p md tg z) md), .int .i64 (fZ (fcheck (kof ty 4) p md tg z) z)]) (show _ = some 6 by kernel_rfl) rfl rfl rfl (by simp [Value.oneCell']) hk40 (by simp)) rfl rfl ?_
      rintro h29 hp41
      have hk42 : Blk h29 h27.size [.int .u8 (fT (fcheck (kof ty 4) p md tg z) (kof ty 4)), str (fN (fcheck (kof ty 4) p md tg z) p), str (fP (fcheck (kof ty 4) p md tg z) p), str (fL (fcheck (kof ty 4) p md tg z) tg), .int .i64 (fM (fcheck (kof ty 4) p md tg z) md), .int .i64 (fZ (fcheck (kof ty 4) p md tg z) z)] := hp41.blk
      refine L_yld (Y_assign rfl) rfl rfl rfl ?_
      refine L_yld (Y_assign rfl) rfl rfl rfl ?_
      refine L_nil ?_
      refine X_then ?_
      refine W_sub _ (.cons (i := 15) rfl (.cons (i := 14) rfl (.cons (i := 13) rfl (.cons (i := 7) rfl (.cons (i := 6) rfl (.cons (i := 4) rfl (.cons (i := 2) rfl (.cons (i := 1) rfl (.nil _))))))))) ?_
      refine W_seq ?_
      refine W_cut (S := Unit) (fun _ => [(107, .bool (decide (((¬ (fcheck (kof ty 4) p md tg z) = 0) ∨ (¬ ((fT (fcheck (kof ty 4) p md tg z) (kof ty 4)) = ty ∧ (fN (fcheck (kof ty 4) p md tg z) p) = nm ∧ (fP (fcheck (kof ty 4) p md tg z) p) = pr ∧ (fL (fcheck (kof ty 4) p md tg z) tg) = lk ∧ (fM (fcheck (kof ty 4) p md tg z) md) = md ∧ (fZ (fcheck (kof ty 4) p md tg z) z) = sz))) ∨ (¬ (l = (fR (fcheck (kof ty 4) p md tg z) p tg z)))))), (7, .pointer (some ⟨r4_1, 0, none⟩)), (6, .int .i64 17), (4, .pointer (some ⟨h1.size, 0, none⟩))]) (fun _ h' => h' = h29) ?_ ?_
      · refine W_region ?_
        refine L_yld (Y_move rfl) rfl rfl rfl ?_
        refine L_yld (Y_neq rfl rfl) rfl rfl rfl ?_
        refine L_yld (Y_move rfl) rfl rfl rfl ?_
        refine L_splitd (d := 97) rfl (fun c43 => ?_) (fun c43 => ?_)
        · refine L_skip rfl rfl rfl ?_
          refine L_skip rfl rfl rfl ?_
          refine L_skip rfl rfl rfl ?_
          refine L_yld (Y_pick_t rfl rfl) rfl rfl rfl ?_
          refine L_yld (Y_move rfl) rfl rfl rfl ?_
          refine L_skip rfl rfl rfl ?_
          refine L_skip rfl rfl rfl ?_
          refine L_skip rfl rfl rfl ?_
          refine L_skip rfl rfl rfl ?_
          refine L_yld (Y_pick_t rfl rfl) rfl rfl rfl ?_
          refine L_nil ?_
          exact X_cut () (.cons (i := 107) (lkb rfl (by simp only [eq_true c43, true_and, and_true, false_and, and_false, true_or, or_true, false_or, or_false, not_true_eq_false, not_false_eq_true, decide_true, decide_false, Bool.true_eq_false, Bool.false_eq_true, eq_self, Bool.decide_eq_true])) (.cons (i := 7) rfl (.cons (i := 6) rfl (.cons (i := 4) rfl (.nil _))))) rfl
        · refine L_yld (Y_ldbox (us := [.int .u8 (fT (fcheck (kof ty 4) p md tg z) (kof ty 4)), str (fN (fcheck (kof ty 4) p md tg z) p), str (fP (fcheck (kof ty 4) p md tg z) p), str (fL (fcheck (kof ty 4) p md tg z) tg), .int .i64 (fM (fcheck (kof ty 4) p md tg z) md), .int .i64 (fZ (fcheck (kof ty 4) p md tg z) z)]) Tryd.underlying58 rfl (show _ = some 6 by kernel_rfl) rfl hk42 rfl) rfl rfl rfl ?_
          refine L_yld (Y_ldbox (us := [.int .u8 (ty), str nm, str pr, str lk, .int .i64 (md), .int .i64 (sz)]) Tryd.underlying58 rfl (show _ = some 6 by kernel_rfl) rfl (hk2.ext ((((((((hn3.ext.trans hx20).then' hp21.only (by simp) (Nat.le_trans hn3.ext.size q4_1l)).trans hx25).then' hx (by simp) (Nat.le_trans hn3.ext.size q4_1l)).then' hx2 (by simp) (Nat.le_trans hn3.ext.size q4_1l)).trans hx38).trans hn39.ext).then' hp41.only (by simp) (Nat.le_trans (Nat.le_trans (Nat.le_trans (Nat.le_trans (Nat.le_trans (Nat.le_trans hn3.ext.size hx20.size) hp21.only.size) hx25.size) hx.size) hx2.size) hx38.size))) rfl) rfl rfl rfl ?_
          refine L_yld (Y_decneg (Y_stneq (xs := [.int .u8 (fT (fcheck (kof ty 4) p md tg z) (kof ty 4)), str (fN (fcheck (kof ty 4) p md tg z) p), str (fP (fcheck (kof ty 4) p md tg z) p), str (fL (fcheck (kof ty 4) p md tg z) tg), .int .i64 (fM (fcheck (kof ty 4) p md tg z) md), .int .i64 (fZ (fcheck (kof ty 4) p md tg z) z)]) (ys := [.int .u8 (ty), str nm, str pr, str lk, .int .i64 (md), .int .i64 (sz)]) (r := decide ((fT (fcheck (kof ty 4) p md tg z) (kof ty 4)) = ty ∧ (fN (fcheck (kof ty 4) p md tg z) p) = nm ∧ (fP (fcheck (kof ty 4) p md tg z) p) = pr ∧ (fL (fcheck (kof ty 4) p md tg z) tg) = lk ∧ (fM (fcheck (kof ty 4) p md tg z) md) = md ∧ (fZ (fcheck (kof ty 4) p md tg z) z) = sz)) (by kernel_rfl) (by kernel_rfl) (by kernel_rfl) rfl rfl (steq (ks := [.i .u8, .s, .s, .s, .i .i64, .i .i64]) (by kernel_rfl) (by simp [eqks, eqk])))) rfl rfl rfl ?_
          refine L_yld (Y_pick_f rfl rfl) rfl rfl rfl ?_
          refine L_yld (Y_move rfl) rfl rfl rfl ?_
          refine L_splitd (d := 102) rfl (fun c44 => ?_) (fun c44 => ?_)
          · refine L_skip rfl rfl rfl ?_
            refine L_skip rfl rfl rfl ?_
            refine L_skip rfl rfl rfl ?_
            refine L_skip rfl rfl rfl ?_
            refine L_yld (Y_pick_t rfl rfl) rfl rfl rfl ?_
            refine L_nil ?_
            exact X_cut () (.cons (i := 107) (lkb rfl (by simp only [eq_false c43, eq_true c44, true_and, and_true, false_and, and_false, true_or, or_true, false_or, or_false, not_true_eq_false, not_false_eq_true, decide_true, decide_false, Bool.true_eq_false, Bool.false_eq_true, eq_self, Bool.decide_eq_true])) (.cons (i := 7) rfl (.cons (i := 6) rfl (.cons (i := 4) rfl (.nil _))))) rfl
          · refine L_yld (Y_move rfl) rfl rfl rfl ?_
            refine L_yld (Y_move rfl) rfl rfl rfl ?_
            refine L_call (E_call (by kernel_rfl) rfl) (ref10_Same _ w l (hl.ext (((((((((hn1.ext.trans hn3.ext).trans hx20).then' hp21.only (by simp) (Nat.le_trans (Nat.le_trans hn1.ext.size hn3.ext.size) q4_1l)).trans hx25).then' hx (by simp) (Nat.le_trans (Nat.le_trans hn1.ext.size hn3.ext.size) q4_1l)).then' hx2 (by simp) (Nat.le_trans (Nat.le_trans hn1.ext.size hn3.ext.size) q4_1l)).trans hx38).trans hn39.ext).then' hp41.only (by simp) (Nat.le_trans (Nat.le_trans (Nat.le_trans (Nat.le_trans (Nat.le_trans (Nat.le_trans (Nat.le_trans hn1.ext.size hn3.ext.size) hx20.size) hp21.only.size) hx25.size) hx.size) hx2.size) hx38.size))) s136 (fR (fcheck (kof ty 4) p md tg z) p tg z) (hr137.rows.ext (hn39.ext.then' hp41.only (by simp) (Nat.le_refl _))) (by first | first | omega | (simp; done) | (simp; omega) | rfl | (simp <;> omega))) rfl rfl rfl ?_
            rintro _ h29 ⟨rfl, rfl⟩
            refine L_yld (Y_notd rfl) rfl rfl rfl ?_
            refine L_yld (Y_pick_f rfl rfl) rfl rfl rfl ?_
            refine L_nil ?_
            exact X_cut () (.cons (i := 107) (lkb rfl (by simp only [eq_false c43, eq_false c44, true_and, and_true, false_and, and_false, true_or, or_true, false_or, or_false, not_true_eq_false, not_false_eq_true, decide_true, decide_false, Bool.true_eq_false, Bool.false_eq_true, eq_self, Bool.decide_eq_true])) (.cons (i := 7) rfl (.cons (i := 6) rfl (.cons (i := 4) rfl (.nil _))))) rfl
      rintro _ h29 rfl
      show W _ _ _ _ _ [(107, .bool (decide (((¬ (fcheck (kof ty 4) p md tg z) = 0) ∨ (¬ ((fT (fcheck (kof ty 4) p md tg z) (kof ty 4)) = ty ∧ (fN (fcheck (kof ty 4) p md tg z) p) = nm ∧ (fP (fcheck (kof ty 4) p md tg z) p) = pr ∧ (fL (fcheck (kof ty 4) p md tg z) tg) = lk ∧ (fM (fcheck (kof ty 4) p md tg z) md) = md ∧ (fZ (fcheck (kof ty 4) p md tg z) z) = sz))) ∨ (¬ (l = (fR (fcheck (kof ty 4) p md tg z) p tg z)))))), (7, .pointer (some ⟨r4_1, 0, none⟩)), (6, .int .i64 17), (4, .pointer (some ⟨h1.size, 0, none⟩))] _
      refine W_splitd rfl (fun b => ?_) (fun b => ?_)
      · refine W_seq ?_
        refine W_region ?_
        refine L_yld (Y_build (v := .agg #[.int .i64 0, str [], .int .i64 0, str [], .int .i64 0]) (pv := []) (evp (is := []) (os := []) (vs := []) rfl rfl) (fun _ => by kernel_rfl)) rfl rfl rfl ?_
        refine L_yld (Y_move rfl) rfl rfl rfl ?_
        refine L_dos (D_store (us := [.int .i64 0, str [], .int .i64 0, str [], .int .i64 0]) (show _ = some 5 by kernel_rfl) rfl rfl rfl (by simp [Value.oneCell']) (hk4.ext (((((((hx20.then' hp21.only (by simp) q4_1l).trans hx25).then' hx (by simp) q4_1l).then' hx2 (by simp) q4_1l).trans hx38).trans hn39.ext).then' hp41.only (by simp) (Nat.le_trans (Nat.le_trans (Nat.le_trans (Nat.le_trans (Nat.le_trans hx20.size hp21.only.size) hx25.size) hx.size) hx2.size) hx38.size))) (by simp)) rfl rfl ?_
        rintro h30 hp45
        have hk46 : Blk h30 h1.size [.int .i64 0, str [], .int .i64 0, str [], .int .i64 0] := hp45.blk
        refine L_yld (Y_assign rfl) rfl rfl rfl ?_
        refine L_nil ?_
        refine X_then ?_
        refine W_sub _ (.cons (i := 5) rfl (.cons (i := 7) rfl (.cons (i := 4) rfl (.nil _)))) ?_
        refine W_ret ?_
        refine X_then_ret ?_
        refine X_retv2 rfl (RV.agg rfl Tryd.underlying46 rfl (show _ = some 5 by kernel_rfl) hk46) rfl ?_
        have hm := rres_not (ty := ty) (md := md) hf1 (by rw [← hkm]; exact fun e => b.elim (fun b => b.elim (fun b => b e.1) (fun b => b e.2.1)) (fun b => b e.2.2))
        exact ⟨by rw [hm, oE_pos h0]; rfl, ((((((((((hn1.ext.trans hn3.ext).trans hx20).then' hp21.only (by simp) (Nat.le_trans (Nat.le_trans hn1.ext.size hn3.ext.size) q4_1l)).trans hx25).then' hx (by simp) (Nat.le_trans (Nat.le_trans hn1.ext.size hn3.ext.size) q4_1l)).then' hx2 (by simp) (Nat.le_trans (Nat.le_trans hn1.ext.size hn3.ext.size) q4_1l)).trans hx38).trans hn39.ext).then' hp41.only (by simp) (Nat.le_trans (Nat.le_trans (Nat.le_trans (Nat.le_trans (Nat.le_trans (Nat.le_trans (Nat.le_trans hn1.ext.size hn3.ext.size) hx20.size) hp21.only.size) hx25.size) hx.size) hx2.size) hx38.size)).then' hp45.only (by simp) hn1.ext.size)⟩
      · refine W_skip ?_
        refine X_then ?_
        refine W_sub _ (.cons (i := 7) rfl (.cons (i := 4) rfl (.nil _))) ?_
        refine W_seq ?_
        refine W_region ?_
        refine L_yld (Y_ldbox (us := [.int .i64 ((kof ty 4)), str p, .int .i64 (md), str tg, .int .i64 (z)]) Tryd.underlying46 rfl (show _ = some 5 by kernel_rfl) rfl (hbb2.ext ((hx38.trans hn39.ext).then' hp41.only (by simp) hx38.size)) rfl) rfl rfl rfl ?_
        refine L_dos (D_store (us := [.int .i64 ((kof ty 4)), str p, .int .i64 (md), str tg, .int .i64 (z)]) (show _ = some 5 by kernel_rfl) rfl rfl rfl (by simp [Value.oneCell']) (hk4.ext (((((((hx20.then' hp21.only (by simp) q4_1l).trans hx25).then' hx (by simp) q4_1l).then' hx2 (by simp) q4_1l).trans hx38).trans hn39.ext).then' hp41.only (by simp) (Nat.le_trans (Nat.le_trans (Nat.le_trans (Nat.le_trans (Nat.le_trans hx20.size hp21.only.size) hx25.size) hx.size) hx2.size) hx38.size))) (by simp)) rfl rfl ?_
        rintro h31 hp47
        have hk48 : Blk h31 h1.size [.int .i64 ((kof ty 4)), str p, .int .i64 (md), str tg, .int .i64 (z)] := hp47.blk
        refine L_yld (Y_assign rfl) rfl rfl rfl ?_
        refine L_nil ?_
        refine X_then ?_
        refine W_sub _ (.cons (i := 5) rfl (.cons (i := 4) rfl (.nil _))) ?_
        refine W_ret ?_
        refine X_retv2 rfl (RV.agg rfl Tryd.underlying46 rfl (show _ = some 5 by kernel_rfl) hk48) rfl ?_
        have hm := rres_yes (ty := ty) (md := md) hf1 (by rw [← hkm]; exact ⟨Classical.not_not.1 (fun x => b (.inl (.inl x))), Classical.not_not.1 (fun x => b (.inl (.inr x))), Classical.not_not.1 (fun x => b (.inr x))⟩)
        exact ⟨by rw [hm, ← hkm]; rfl, ((((((((((hn1.ext.trans hn3.ext).trans hx20).then' hp21.only (by simp) (Nat.le_trans (Nat.le_trans hn1.ext.size hn3.ext.size) q4_1l)).trans hx25).then' hx (by simp) (Nat.le_trans (Nat.le_trans hn1.ext.size hn3.ext.size) q4_1l)).then' hx2 (by simp) (Nat.le_trans (Nat.le_trans hn1.ext.size hn3.ext.size) q4_1l)).trans hx38).trans hn39.ext).then' hp41.only (by simp) (Nat.le_trans (Nat.le_trans (Nat.le_trans (Nat.le_trans (Nat.le_trans (Nat.le_trans (Nat.le_trans hn1.ext.size hn3.ext.size) hx20.size) hp21.only.size) hx25.size) hx.size) hx2.size) hx38.size)).then' hp47.only (by simp) hn1.ext.size)⟩
set_option maxRecDepth 100000 in
theorem ref10_MergeN (h : Heap) (ty : Int) (nm : List UInt8) (pr : List UInt8) (lk : List UInt8) (md : Int) (sz : Int) (w : Value) (l : List Rec) (hl : Rows recS h w l) (hty : 0 ≤ ty ∧ ty ≤ 255) (hnm : pr.length + 1 + nm.length ≤ 140737488355328) (hlk : lk.length ≤ 140737488355328) (hsz : -9223372036854775808 ≤ sz ∧ sz ≤ 9223372036854775807) (hn : l.length ≤ 140737488355328) (hs : ∀ r ∈ l, r.key.length ≤ 140737488355328 ∧ r.val.length ≤ 140737488355328) (h0 : l.length = 0) : Cal Tryd.prog 40 #[.agg #[.int .u8 (ty), str nm, str pr, str lk, .int .i64 (md), .int .i64 (sz)], w] h (fun v h' => v = .tuple #[.agg #[.int .i64 (oI (mres ty nm pr lk md sz l) (mkind ty)), str (oP (mres ty nm pr lk md sz l)), .int .i64 (oI (mres ty nm pr lk md sz l) md), str (oT (mres ty nm pr lk md sz l)), .int .i64 (oZ (mres ty nm pr lk md sz l))], .int .i64 (oE (mres ty nm pr lk md sz l) l)] ∧ Ext h h') := by
  refine Cal_enter (args := [.agg #[.int .u8 (ty), str nm, str pr, str lk, .int .i64 (md), .int .i64 (sz)], w]) Tryd.func40 rfl rfl rfl (fun σ => ?_)
  refine W_seq ?_
  refine W_region ?_
  refine L_mks (M_box rfl) rfl rfl rfl ?_
  rintro _ h1 ⟨rfl, hn1⟩
  have hk2 : Blk h1 h.size [.int .u8 (ty), str nm, str pr, str lk, .int .i64 (md), .int .i64 (sz)] := hn1.blk
  refine L_mks (M_alloc (u := .agg #[.int .i64 0, str [], .int .i64 0, str [], .int .i64 0]) (by kernel_rfl)) rfl rfl rfl ?_
  rintro _ h2 ⟨rfl, hn3⟩
  have hk4 : Blk h2 h1.size [.int .i64 0, str [], .int .i64 0, str [], .int .i64 0] := hn3.blk
  refine L_yld (Y_assign rfl) rfl rfl rfl ?_
  refine L_nil ?_
  refine X_then ?_
  refine W_sub _ (.cons (i := 5) rfl (.cons (i := 4) rfl (.cons (i := 2) rfl (.cons (i := 1) rfl (.nil _))))) ?_
  refine W_seq ?_
  refine W_region ?_
  refine L_yld (Y_assign rfl) rfl rfl rfl ?_
  refine L_nil ?_
  refine X_then ?_
  refine W_seq ?_
  refine W_seq ?_
  refine W_region ?_
  refine L_yld (Y_move rfl) rfl rfl rfl ?_
  refine L_yld (Y_lenr Tryd.underlying22 rfl (hl.ext (hn1.ext.trans hn3.ext))) rfl rfl rfl ?_
  refine L_yld (Y_gtr rfl rfl) rfl rfl rfl ?_
  refine L_nil ?_
  refine X_then ?_
  refine W_sub _ (.cons (i := 18) rfl (.cons (i := 6) rfl (.cons (i := 5) rfl (.cons (i := 4) rfl (.cons (i := 2) rfl (.cons (i := 1) rfl (.nil _))))))) ?_
  refine W_known false rfl (by exact decide_eq_false (by omega)) ?_
  refine W_skip ?_
  refine X_then ?_
  refine W_sub _ (.cons (i := 6) rfl (.cons (i := 5) rfl (.cons (i := 4) rfl (.cons (i := 2) rfl (.cons (i := 1) rfl (.nil _)))))) ?_
  refine W_seq ?_
  refine W_pers [(6, .int .i64 6), (5, .int .i64 0), (4, .pointer (some ⟨h1.size, 0, none⟩)), (2, .pointer (some ⟨h.size, 0, none⟩)), (1, w)] (.cons (i := 6) rfl (.cons (i := 5) rfl (.cons (i := 4) rfl (.cons (i := 2) rfl (.cons (i := 1) rfl (.nil _)))))) (by kernel_rfl) ?_
  refine LP_op 0 (fun _ vv => .pointer (some ⟨h.size, 0 + 2, none⟩) = vv) [] rfl rfl (by kernel_rfl) (fun _ _ _ _ p => p) ?_ ?_
  · intro h3 hx5
    refine Needs_nil ?_
    refine Stp_yld (Y_fieldAddr (off := 2) (by kernel_rfl) rfl rfl) rfl ?_
    exact rfl
  refine LP_op 1 (fun _ vv => str pr = vv) [(0, 19)] rfl rfl (by kernel_rfl) (fun _ _ _ _ p => p) ?_ ?_
  · intro h4 hx6
    rintro _ rfl
    refine Needs_nil ?_
    refine Stp_yld (Y_ldblk Tryd.underlying9 rfl rfl (hk2.ext (hn3.ext.trans hx6)) rfl) rfl ?_
    exact rfl
  refine LP_op 2 (fun _ vv => .pointer (some ⟨h.size, 0 + 1, none⟩) = vv) [] rfl rfl (by kernel_rfl) (fun _ _ _ _ p => p) ?_ ?_
  · intro h5 hx7
    refine Needs_nil ?_
    refine Stp_yld (Y_fieldAddr (off := 1) (by kernel_rfl) rfl rfl) rfl ?_
    exact rfl
  refine LP_op 3 (fun _ vv => str nm = vv) [(2, 21)] rfl rfl (by kernel_rfl) (fun _ _ _ _ p => p) ?_ ?_
  · intro h6 hx8
    rintro _ rfl
    refine Needs_nil ?_
    refine Stp_yld (Y_ldblk Tryd.underlying9 rfl rfl (hk2.ext (hn3.ext.trans hx8)) rfl) rfl ?_
    exact rfl
  refine LP_op 4 (fun _ vv => str (pjoin pr nm) = vv) [(1, 20), (3, 22)] rfl rfl (by kernel_rfl) (fun _ _ _ _ p => p) ?_ ?_
  · intro h7 hx9
    rintro _ rfl
    rintro _ rfl
    refine Needs_nil ?_
    refine Stp_call (E_call (by kernel_rfl) rfl) (ref08_Join _ pr nm (by first | first | omega | (simp; done) | (simp; omega) | rfl | (simp <;> omega))) rfl ?_
    rintro _ h7 ⟨rfl, rfl⟩
    exact ⟨(Ext.refl _), rfl⟩
  refine LP_op 5 (fun _ vv => .pointer (some ⟨h.size, 0 + 4, none⟩) = vv) [] rfl rfl (by kernel_rfl) (fun _ _ _ _ p => p) ?_ ?_
  · intro h8 hx10
    refine Needs_nil ?_
    refine Stp_yld (Y_fieldAddr (off := 4) (by kernel_rfl) rfl rfl) rfl ?_
    exact rfl
  refine LP_op 6 (fun _ vv => .int .i64 (md) = vv) [(5, 24)] rfl rfl (by kernel_rfl) (fun _ _ _ _ p => p) ?_ ?_
  · intro h9 hx11
    rintro _ rfl
    refine Needs_nil ?_
    refine Stp_yld (Y_ldblk Tryd.underlying3 rfl rfl (hk2.ext (hn3.ext.trans hx11)) rfl) rfl ?_
    exact rfl
  refine LP_op 7 (fun _ vv => .pointer (some ⟨h.size, 0 + 3, none⟩) = vv) [] rfl rfl (by kernel_rfl) (fun _ _ _ _ p => p) ?_ ?_
  · intro h10 hx12
    refine Needs_nil ?_
    refine Stp_yld (Y_fieldAddr (off := 3) (by kernel_rfl) rfl rfl) rfl ?_
    exact rfl
  refine LP_op 8 (fun _ vv => str lk = vv) [(7, 26)] rfl rfl (by kernel_rfl) (fun _ _ _ _ p => p) ?_ ?_
  · intro h11 hx13
    rintro _ rfl
    refine Needs_nil ?_
    refine Stp_yld (Y_ldblk Tryd.underlying9 rfl rfl (hk2.ext (hn3.ext.trans hx13)) rfl) rfl ?_
    exact rfl
  refine LP_op 9 (fun _ vv => .pointer (some ⟨h.size, 0 + 5, none⟩) = vv) [] rfl rfl (by kernel_rfl) (fun _ _ _ _ p => p) ?_ ?_
  · intro h12 hx14
    refine Needs_nil ?_
    refine Stp_yld (Y_fieldAddr (off := 5) (by kernel_rfl) rfl rfl) rfl ?_
    exact rfl
  refine LP_op 10 (fun _ vv => .int .i64 (sz) = vv) [(9, 28)] rfl rfl (by kernel_rfl) (fun _ _ _ _ p => p) ?_ ?_
  · intro h13 hx15
    rintro _ rfl
    refine Needs_nil ?_
    refine Stp_yld (Y_ldblk Tryd.underlying2 rfl rfl (hk2.ext (hn3.ext.trans hx15)) rfl) rfl ?_
    exact rfl
  refine LP_op 11 (fun _ vv => .agg #[.int .i64 (-1), str (pjoin pr nm), .int .i64 (md), str lk, .int .i64 (sz)] = vv) [(6, 25), (8, 27), (10, 29), (4, 23)] rfl rfl (by kernel_rfl) (fun _ _ _ _ p => p) ?_ ?_
  · intro h14 hx16
    rintro _ rfl
    rintro _ rfl
    rintro _ rfl
    rintro _ rfl
    refine Needs_nil ?_
    refine Stp_yld (Y_build (v := .agg #[.int .i64 (-1), str (pjoin pr nm), .int .i64 (md), str lk, .int .i64 (sz)]) (pv := [(0, .int .i64 (-1)), (1, str (pjoin pr nm)), (2, .int .i64 (md)), (3, str lk), (4, .int .i64 (sz))]) (evp (is := [0, 1, 2, 3, 4]) (os := [.const (.int .i64 (-1)), .tmp 23, .tmp 25, .tmp 27, .tmp 29]) (vs := [.int .i64 (-1), str (pjoin pr nm), .int .i64 (md), str lk, .int .i64 (sz)]) rfl rfl) (fun _ => by kernel_rfl)) rfl ?_
    exact rfl
  refine LP_op 12 (fun hh vv => ∃ r4_1, vv = .pointer (some ⟨r4_1, 0, none⟩) ∧ Blk hh r4_1 [.int .i64 0, str [], .int .i64 0, str [], .int .i64 0] ∧ h2.size ≤ r4_1) [] rfl rfl (by kernel_rfl) (fun _ _ _ x_ p_ => by obtain ⟨r4_1, rfl, q4_1, q4_1l⟩ := p_; exact ⟨_, rfl, q4_1.ext x_, q4_1l⟩) ?_ ?_
  · intro h15 hx17
    refine Needs_nil ?_
    refine Stp_mks (M_alloc (u := .agg #[.int .i64 0, str [], .int .i64 0, str [], .int .i64 0]) (by kernel_rfl)) rfl ?_
    rintro _ h16 ⟨rfl, hn18⟩
    have hk19 : Blk h16 h15.size [.int .i64 0, str [], .int .i64 0, str [], .int .i64 0] := hn18.blk
    exact ⟨hn18.ext, ⟨h15.size, rfl, hk19, hx17.size⟩⟩
  refine LP_tail rfl 13 [(11, 30), (12, 7)] rfl rfl (by kernel_rfl) (by kernel_rfl) (by kernel_rfl) rfl ?_
  intro h17 hx20
  rintro _ rfl
  rintro _ ⟨r4_1, rfl, q4_1, q4_1l⟩
  refine Needs_nil ?_
  refine L_dos (D_store (us := [.int .i64 (-1), str (pjoin pr nm), .int .i64 (md), str lk, .int .i64 (sz)]) (show _ = some 5 by kernel_rfl) rfl rfl rfl (by simp [Value.oneCell']) q4_1 (by simp)) rfl rfl ?_
  rintro h18 hp21
  have hk22 : Blk h18 r4_1 [.int .i64 (-1), str (pjoin pr nm), .int .i64 (md), str lk, .int .i64 (sz)] := hp21.blk
  refine L_nil ?_
  refine X_then ?_
  refine W_sub _ (.cons (i := 7) rfl (.cons (i := 6) rfl (.cons (i := 5) rfl (.cons (i := 4) rfl (.cons (i := 2) rfl (.cons (i := 1) rfl (.nil _))))))) ?_
  refine W_seq ?_
  refine W_region ?_
  refine L_mks (M_litb (l := [53, 48, 50, 49]) (cells := [.int .u8 53, .int .u8 48, .int .u8 50, .int .u8 49]) (pv := [(0, .int .u8 53), (1, .int .u8 48), (2, .int .u8 50), (3, .int .u8 49)]) (E := 5) (evp (is := [0, 1, 2, 3]) (os := [.const (.int .u8 53), .const (.int .u8 48), .const (.int .u8 50), .const (.int .u8 49)]) (vs := [.int .u8 53, .int .u8 48, .int .u8 50, .int .u8 49]) rfl rfl) rfl rfl (fun _ => by kernel_rfl)) rfl rfl rfl ?_
  rintro v23 h19 ⟨ho24, hx25⟩
  refine L_yld (Y_assign rfl) rfl rfl rfl ?_
  refine L_nil ?_
  refine X_then ?_
  refine W_sub _ (.cons (i := 8) rfl (.cons (i := 7) rfl (.cons (i := 6) rfl (.cons (i := 5) rfl (.cons (i := 4) rfl (.cons (i := 2) rfl (.cons (i := 1) rfl (.nil _)))))))) ?_
  refine W_seq ?_
  refine W_seq ?_
  refine W_region ?_
  refine L_yld (Y_assign rfl) rfl rfl rfl ?_
  refine L_nil ?_
  refine X_then ?_
  refine W_block ?_
  refine W_loop (S := Nat) (fun i => [(8, v23), (7, .pointer (some ⟨r4_1, 0, none⟩)), (6, .int .i64 6), (5, .int .i64 0), (4, .pointer (some ⟨h1.size, 0, none⟩)), (2, .pointer (some ⟨h.size, 0, none⟩)), (1, w), (9, .int .i64 ((i : Int)))]) (fun i h' => i ≤ 4 ∧ Only [r4_1] h19 h' ∧ Blk h' r4_1 [.int .i64 (kof ty i), str (pjoin pr nm), .int .i64 md, str lk, .int .i64 sz]) (fun i => 4 - i) 0 (.cons (i := 8) rfl (.cons (i := 7) rfl (.cons (i := 6) rfl (.cons (i := 5) rfl (.cons (i := 4) rfl (.cons (i := 2) rfl (.cons (i := 1) rfl (.cons (i := 9) rfl (.nil _))))))))) ?_ ?_
  · exact ⟨by omega, Only.refl _ _, (hk22.ext hx25)⟩
  rintro i h20 ⟨hi, hx, hbb⟩
  show W _ _ _ _ _ [(8, v23), (7, .pointer (some ⟨r4_1, 0, none⟩)), (6, .int .i64 6), (5, .int .i64 0), (4, .pointer (some ⟨h1.size, 0, none⟩)), (2, .pointer (some ⟨h.size, 0, none⟩)), (1, w), (9, .int .i64 ((i : Int)))] _
  refine W_seq ?_
  refine W_seq ?_
  refine W_region ?_
  refine L_yld (Y_move rfl) rfl rfl rfl ?_
  refine L_yld (Y_lss rfl rfl) rfl rfl rfl ?_
  refine L_nil ?_
  refine X_then ?_
  refine W_sub _ (.cons (i := 33) rfl (.cons (i := 8) rfl (.cons (i := 7) rfl (.cons (i := 6) rfl (.cons (i := 5) rfl (.cons (i := 4) rfl (.cons (i := 2) rfl (.cons (i := 1) rfl (.cons (i := 9) rfl (.nil _)))))))))) ?_
  refine W_splitd rfl (fun h4 => ?_) (fun h4 => ?_)
  · refine W_skip ?_
    refine X_then ?_
    refine W_sub _ (.cons (i := 8) rfl (.cons (i := 7) rfl (.cons (i := 6) rfl (.cons (i := 5) rfl (.cons (i := 4) rfl (.cons (i := 2) rfl (.cons (i := 1) rfl (.cons (i := 9) rfl (.nil _))))))))) ?_
    refine W_seq ?_
    refine W_block ?_
    refine W_seq ?_
    refine W_quiet (fun h' => h' = h20) (by kernel_rfl) (by kernel_rfl) rfl ?_
    refine LQ_yld (fun h_ hI_ => by subst hI_; exact Y_move rfl) rfl rfl rfl ?_
    refine LQ_yld (fun h_ hI_ => by subst hI_; exact Y_move rfl) rfl rfl rfl ?_
    refine LQ_yld (fun h_ hI_ => by subst hI_; exact Y_idx Tryd.underlying23 (show _ = some 1 by kernel_rfl) rfl rfl (ho24.only1 hx (Nat.lt_of_lt_of_le q4_1.lt hp21.only.size)).bytes (by first | omega | (simp; done) | (simp; omega)) (by first | omega | (simp; done) | (simp; omega))) rfl rfl rfl ?_
    refine LQ_yld (fun h_ hI_ => by subst hI_; exact Y_ldbyte Tryd.underlying5 rfl rfl (ho24.only1 hx (Nat.lt_of_lt_of_le q4_1.lt hp21.only.size)).bytes (by first | omega | (simp; done) | (simp; omega)) (by first | omega | (simp; done) | (simp; omega))) rfl rfl rfl ?_
    refine LQ_yld (fun h_ hI_ => by subst hI_; exact Y_fieldAddr (off := 0) (by kernel_rfl) rfl rfl) rfl rfl rfl ?_
    refine LQ_yld (fun h_ hI_ => by subst hI_; exact Y_ldblk Tryd.underlying5 rfl rfl (hk2.ext ((((hn3.ext.trans hx20).then' hp21.only (by simp) (Nat.le_trans hn3.ext.size q4_1l)).trans hx25).then' hx (by simp) (Nat.le_trans hn3.ext.size q4_1l))) rfl) rfl rfl rfl ?_
    refine LQ_yld (fun h_ hI_ => by subst hI_; exact Y_eql rfl rfl) rfl rfl rfl ?_
    refine LQ_nil ?_
    rintro h20 rfl
    refine X_then ?_
    refine W_sub _ (.cons (i := 42) rfl (.cons (i := 8) rfl (.cons (i := 7) rfl (.cons (i := 6) rfl (.cons (i := 5) rfl (.cons (i := 4) rfl (.cons (i := 2) rfl (.cons (i := 1) rfl (.cons (i := 9) rfl (.nil _)))))))))) ?_
    refine W_splitd rfl (fun hy => ?_) (fun hy => ?_)
    · have hy : (byt [53, 48, 50, 49] ((i : Int)).toNat) = ty := hy
      refine W_region ?_
      refine L_yld (Y_move rfl) rfl rfl rfl ?_
      refine L_yld (Y_fieldAddr (off := 0) (by kernel_rfl) rfl rfl) rfl rfl rfl ?_
      refine L_dos (D_store (us := [.int .i64 ((i : Int))]) (show _ = some 1 by kernel_rfl) rfl rfl rfl (by simp [Value.oneCell']) hbb (by simp)) rfl rfl ?_
      rintro h21 hp26
      have hk27 : Blk h21 r4_1 [.int .i64 ((i : Int)), str (pjoin pr nm), .int .i64 (md), str lk, .int .i64 (sz)] := hp26.blk
      refine L_nil ?_
      refine X_block ?_
      refine X_then ?_
      refine W_sub _ (.cons (i := 8) rfl (.cons (i := 7) rfl (.cons (i := 6) rfl (.cons (i := 5) rfl (.cons (i := 4) rfl (.cons (i := 2) rfl (.cons (i := 1) rfl (.cons (i := 9) rfl (.nil _))))))))) ?_
      refine W_region ?_
      refine L_yld (Y_move rfl) rfl rfl rfl ?_
      refine L_yld (Y_add rfl rfl (by first | omega | (simp; done) | (simp; omega)) (by first | omega | (simp; done) | (simp; omega))) rfl rfl rfl ?_
      refine L_yld (Y_assign rfl) rfl rfl rfl ?_
      refine L_nil ?_
      refine X_loop (i + 1) (.cons (i := 8) rfl (.cons (i := 7) rfl (.cons (i := 6) rfl (.cons (i := 5) rfl (.cons (i := 4) rfl (.cons (i := 2) rfl (.cons (i := 1) rfl (.cons (i := 9) rfl (.nil _))))))))) ?_ ?_
      · exact ⟨by omega, (Only.trans (Only.trans (Only.refl _ _) hx (fun _ hb_ => .inl hb_)) hp26.only (fun _ hb_ => .inl hb_)), by rw [kof_yes (i := i) hy]; exact hk27⟩
      · (try dsimp only)
        omega
    · have hy : ¬ ((byt [53, 48, 50, 49] ((i : Int)).toNat) = ty) := hy
      refine W_skip ?_
      refine X_block ?_
      refine X_then ?_
      refine W_sub _ (.cons (i := 8) rfl (.cons (i := 7) rfl (.cons (i := 6) rfl (.cons (i := 5) rfl (.cons (i := 4) rfl (.cons (i := 2) rfl (.cons (i := 1) rfl (.cons (i := 9) rfl (.nil _))))))))) ?_
      refine W_region ?_
      refine L_yld (Y_move rfl) rfl rfl rfl ?_
      refine L_yld (Y_add rfl rfl (by first | omega | (simp; done) | (simp; omega)) (by first | omega | (simp; done) | (simp; omega))) rfl rfl rfl ?_
      refine L_yld (Y_assign rfl) rfl rfl rfl ?_
      refine L_nil ?_
      refine X_loop (i + 1) (.cons (i := 8) rfl (.cons (i := 7) rfl (.cons (i := 6) rfl (.cons (i := 5) rfl (.cons (i := 4) rfl (.cons (i := 2) rfl (.cons (i := 1) rfl (.cons (i := 9) rfl (.nil _))))))))) ?_ ?_
      · exact ⟨by omega, (Only.trans (Only.refl _ _) hx (fun _ hb_ => .inl hb_)), by rw [kof_no (i := i) hy]; exact hbb⟩
      · (try dsimp only)
        omega
  · refine W_exit ?_
    refine X_then_exit ?_
    refine X_then_exit ?_
    refine X_block_hit ?_
    refine X_then ?_
    refine W_sub _ (.cons (i := 7) rfl (.cons (i := 6) rfl (.cons (i := 5) rfl (.cons (i := 4) rfl (.cons (i := 2) rfl (.cons (i := 1) rfl (.nil _))))))) ?_
    obtain rfl : i = 4 := by omega
    have hkm := kof_mkind hty
    refine W_seq ?_
    refine W_seq ?_
    refine W_region ?_
    refine L_yld (Y_assign rfl) rfl rfl rfl ?_
    refine L_nil ?_
    refine X_then ?_
    refine W_block ?_
    refine W_rounds 1 ?_
    refine W_seq ?_
    refine W_seq ?_
    refine W_region ?_
    refine L_yld (Y_move rfl) rfl rfl rfl ?_
    refine L_yld (Y_move rfl) rfl rfl rfl ?_
    refine L_yld (Y_lenr Tryd.underlying22 rfl (hl.ext (((((hn1.ext.trans hn3.ext).trans hx20).then' hp21.only (by simp) (Nat.le_trans (Nat.le_trans hn1.ext.size hn3.ext.size) q4_1l)).trans hx25).then' hx (by simp) (Nat.le_trans (Nat.le_trans hn1.ext.size hn3.ext.size) q4_1l)))) rfl rfl rfl ?_
    refine L_yld (Y_lss rfl rfl) rfl rfl rfl ?_
    refine L_nil ?_
    refine X_then ?_
    refine W_known false rfl (by exact decide_eq_false (by omega)) ?_
    refine W_exit ?_
    refine X_then_exit ?_
    refine X_then_exit ?_
    refine X_block_hit ?_
    refine X_then ?_
    refine W_sub _ (.cons (i := 7) rfl (.cons (i := 6) rfl (.cons (i := 5) rfl (.cons (i := 4) rfl (.cons (i := 2) rfl (.cons (i := 1) rfl (.nil _))))))) ?_
    have hf1 : rfold l (pjoin pr nm) lk sz = some (pjoin pr nm, lk, sz) := by rw [List.eq_nil_of_length_eq_zero h0]; rfl
    have hjl := pjoin_len pr nm
    refine W_seq ?_
    refine W_region ?_
    refine L_yld (Y_ldbox (us := [.int .i64 (kof ty 4), str (pjoin pr nm), .int .i64 (md), str lk, .int .i64 (sz)]) Tryd.underlying46 rfl (show _ = some 5 by kernel_rfl) rfl hbb rfl) rfl rfl rfl ?_
    refine L_call (E_call (by kernel_rfl) rfl) (ref10_Plan _ (kof ty 4) (pjoin pr nm) md lk sz (by first | first | omega | (simp; done) | (simp; omega) | rfl | (simp <;> omega)) (by first | first | omega | (simp; done) | (simp; omega) | rfl | (simp <;> omega)) (by first | first | omega | (simp; done) | (simp; omega) | rfl | (simp <;> omega))) rfl rfl rfl ?_
    rintro _ h22 ⟨s128, rfl, hr129, hx30⟩
    refine L_yld (Y_move rfl) rfl rfl rfl ?_
    refine L_yld (Y_extract (v := .agg #[.int .u8 (fT (fcheck (kof ty 4) (pjoin pr nm) md lk sz) (kof ty 4)), str (fN (fcheck (kof ty 4) (pjoin pr nm) md lk sz) (pjoin pr nm)), str (fP (fcheck (kof ty 4) (pjoin pr nm) md lk sz) (pjoin pr nm)), str (fL (fcheck (kof ty 4) (pjoin pr nm) md lk sz) lk), .int .i64 (fM (fcheck (kof ty 4) (pjoin pr nm) md lk sz) md), .int .i64 (fZ (fcheck (kof ty 4) (pjoin pr nm) md lk sz) sz)]) rfl rfl) rfl rfl rfl ?_
    refine L_yld (Y_extract (v := s128) rfl rfl) rfl rfl rfl ?_
    refine L_yld (Y_extract (v := .int .i64 (fcheck (kof ty 4) (pjoin pr nm) md lk sz)) rfl rfl) rfl rfl rfl ?_
    refine L_mks (M_alloc (u := .agg #[.int .u8 0, str [], str [], str [], .int .i64 0, .int .i64 0]) (by kernel_rfl)) rfl rfl rfl ?_
    rintro _ h23 ⟨rfl, hn31⟩
    have hk32 : Blk h23 h22.size [.int .u8 0, str [], str [], str [], .int .i64 0, .int .i64 0] := hn31.blk
    refine L_dos (D_store (us := [.int .u8 (fT (fcheck (kof ty 4) (pjoin pr nm) md lk sz) (kof ty 4)), str (fN (fcheck (kof ty 4) (pjoin pr nm) md lk sz) (pjoin pr nm)), str (fP (fcheck (kof ty 4) (pjoin pr nm) md lk sz) (pjoin pr nm)), str (fL (fcheck (kof ty 4) (pjoin pr nm) md lk sz) lk), .int .i64 (fM (fcheck (kof ty 4) (pjoin pr nm) md lk sz) md), .int .i64 (fZ (fcheck (kof ty 4) (pjoin pr nm) md lk sz) sz)]) (show _ = some 6 by kernel_rfl) rfl rfl rfl (by simp [Value.oneCell']) hk32 (by simp)) rfl rfl ?_
    rintro h24 hp33
    have hk34 : Blk h24 h22.size [.int .u8 (fT (fcheck (kof ty 4) (pjoin pr nm) md lk sz) (kof ty 4)), str (fN (fcheck (kof ty 4) (pjoin pr nm) md lk sz) (pjoin pr nm)), str (fP (fcheck (kof ty 4) (pjoin pr nm) md lk sz) (pjoin pr nm)), str (fL (fcheck (kof ty 4) (pjoin pr nm) md lk sz) lk), .int .i64 (fM (fcheck (kof ty 4) (pjoin pr nm) md lk sz) md), .int .i64 (fZ (fcheck (kof ty 4) (pjoin pr nm) md lk sz) sz)] := hp33.blk
    refine L_yld (Y_assign rfl) rfl rfl rfl ?_
    refine L_yld (Y_assign rfl) rfl rfl rfl ?_
    refine L_nil ?_
    refine X_then ?_
    refine W_sub _ (.cons (i := 15) rfl (.cons (i := 14) rfl (.cons (i := 13) rfl (.cons (i := 7) rfl (.cons (i := 6) rfl (.cons (i := 5) rfl (.cons (i := 4) rfl (.cons (i := 2) rfl (.cons (i := 1) rfl (.nil _)))))))))) ?_
    refine W_seq ?_
    refine W_cut (S := Unit) (fun _ => [(107, .bool (decide (((¬ (fcheck (kof ty 4) (pjoin pr nm) md lk sz) = 0) ∨ (¬ ((fT (fcheck (kof ty 4) (pjoin pr nm) md lk sz) (kof ty 4)) = ty ∧ (fN (fcheck (kof ty 4) (pjoin pr nm) md lk sz) (pjoin pr nm)) = nm ∧ (fP (fcheck (kof ty 4) (pjoin pr nm) md lk sz) (pjoin pr nm)) = pr ∧ (fL (fcheck (kof ty 4) (pjoin pr nm) md lk sz) lk) = lk ∧ (fM (fcheck (kof ty 4) (pjoin pr nm) md lk sz) md) = md ∧ (fZ (fcheck (kof ty 4) (pjoin pr nm) md lk sz) sz) = sz))) ∨ (¬ (l = (fR (fcheck (kof ty 4) (pjoin pr nm) md lk sz) (pjoin pr nm) lk sz)))))), (7, .pointer (some ⟨r4_1, 0, none⟩)), (6, .int .i64 6), (5, .int .i64 0), (4, .pointer (some ⟨h1.size, 0, none⟩))]) (fun _ h' => h' = h24) ?_ ?_
    · refine W_region ?_
      refine L_yld (Y_move rfl) rfl rfl rfl ?_
      refine L_yld (Y_neq rfl rfl) rfl rfl rfl ?_
      refine L_yld (Y_move rfl) rfl rfl rfl ?_
      refine L_splitd (d := 97) rfl (fun c35 => ?_) (fun c35 => ?_)
      · refine L_skip rfl rfl rfl ?_
        refine L_skip rfl rfl rfl ?_
        refine L_skip rfl rfl rfl ?_
        refine L_yld (Y_pick_t rfl rfl) rfl rfl rfl ?_
        refine L_yld (Y_move rfl) rfl rfl rfl ?_
        refine L_skip rfl rfl rfl ?_
        refine L_skip rfl rfl rfl ?_
        refine L_skip rfl rfl rfl ?_
        refine L_skip rfl rfl rfl ?_
        refine L_yld (Y_pick_t rfl rfl) rfl rfl rfl ?_
        refine L_nil ?_
        exact X_cut () (.cons (i := 107) (lkb rfl (by simp only [eq_true c35, true_and, and_true, false_and, and_false, true_or, or_true, false_or, or_false, not_true_eq_false, not_false_eq_true, decide_true, decide_false, Bool.true_eq_false, Bool.false_eq_true, eq_self, Bool.decide_eq_true])) (.cons (i := 7) rfl (.cons (i := 6) rfl (.cons (i := 5) rfl (.cons (i := 4) rfl (.nil _)))))) rfl
      · refine L_yld (Y_ldbox (us := [.int .u8 (fT (fcheck (kof ty 4) (pjoin pr nm) md lk sz) (kof ty 4)), str (fN (fcheck (kof ty 4) (pjoin pr nm) md lk sz) (pjoin pr nm)), str (fP (fcheck (kof ty 4) (pjoin pr nm) md lk sz) (pjoin pr nm)), str (fL (fcheck (kof ty 4) (pjoin pr nm) md lk sz) lk), .int .i64 (fM (fcheck (kof ty 4) (pjoin pr nm) md lk sz) md), .int .i64 (fZ (fcheck (kof ty 4) (pjoin pr nm) md lk sz) sz)]) Tryd.underlying58 rfl (show _ = some 6 by kernel_rfl) rfl hk34 rfl) rfl rfl rfl ?_
        refine L_yld (Y_ldbox (us := [.int .u8 (ty), str nm, str pr, str lk, .int .i64 (md), .int .i64 (sz)]) Tryd.underlying58 rfl (show _ = some 6 by kernel_rfl) rfl (hk2.ext (((((((hn3.ext.trans hx20).then' hp21.only (by simp) (Nat.le_trans hn3.ext.size q4_1l)).trans hx25).then' hx (by simp) (Nat.le_trans hn3.ext.size q4_1l)).trans hx30).trans hn31.ext).then' hp33.only (by simp) (Nat.le_trans (Nat.le_trans (Nat.le_trans (Nat.le_trans (Nat.le_trans hn3.ext.size hx20.size) hp21.only.size) hx25.size) hx.size) hx30.size))) rfl) rfl rfl rfl ?_
        refine L_yld (Y_decneg (Y_stneq (xs := [.int .u8 (fT (fcheck (kof ty 4) (pjoin pr nm) md lk sz) (kof ty 4)), str (fN (fcheck (kof ty 4) (pjoin pr nm) md lk sz) (pjoin pr nm)), str (fP (fcheck (kof ty 4) (pjoin pr nm) md lk sz) (pjoin pr nm)), str (fL (fcheck (kof ty 4) (pjoin pr nm) md lk sz) lk), .int .i64 (fM (fcheck (kof ty 4) (pjoin pr nm) md lk sz) md), .int .i64 (fZ (fcheck (kof ty 4) (pjoin pr nm) md lk sz) sz)]) (ys := [.int .u8 (ty), str nm, str pr, str lk, .int .i64 (md), .int .i64 (sz)]) (r := decide ((fT (fcheck (kof ty 4) (pjoin pr nm) md lk sz) (kof ty 4)) = ty ∧ (fN (fcheck (kof ty 4) (pjoin pr nm) md lk sz) (pjoin pr nm)) = nm ∧ (fP (fcheck (kof ty 4) (pjoin pr nm) md lk sz) (pjoin pr nm)) = pr ∧ (fL (fcheck (kof ty 4) (pjoin pr nm) md lk sz) lk) = lk ∧ (fM (fcheck (kof ty 4) (pjoin pr nm) md lk sz) md) = md ∧ (fZ (fcheck (kof ty 4) (pjoin pr nm) md lk sz) sz) = sz)) (by kernel_rfl) (by kernel_rfl) (by kernel_rfl) rfl rfl (steq (ks := [.i .u8, .s, .s, .s, .i .i64, .i .i64]) (by kernel_rfl) (by simp [eqks, eqk])))) rfl rfl rfl ?_
        refine L_yld (Y_pick_f rfl rfl) rfl rfl rfl ?_
        refine L_yld (Y_move rfl) rfl rfl rfl ?_
        refine L_splitd (d := 102) rfl (fun c36 => ?_) (fun c36 => ?_)
        · refine L_skip rfl rfl rfl ?_
          refine L_skip rfl rfl rfl ?_
          refine L_skip rfl rfl rfl ?_
          refine L_skip rfl rfl rfl ?_
          refine L_yld (Y_pick_t rfl rfl) rfl rfl rfl ?_
          refine L_nil ?_
          exact X_cut () (.cons (i := 107) (lkb rfl (by simp only [eq_false c35, eq_true c36, true_and, and_true, false_and, and_false, true_or, or_true, false_or, or_false, not_true_eq_false, not_false_eq_true, decide_true, decide_false, Bool.true_eq_false, Bool.false_eq_true, eq_self, Bool.decide_eq_true])) (.cons (i := 7) rfl (.cons (i := 6) rfl (.cons (i := 5) rfl (.cons (i := 4) rfl (.nil _)))))) rfl
        · refine L_yld (Y_move rfl) rfl rfl rfl ?_
          refine L_yld (Y_move rfl) rfl rfl rfl ?_
          refine L_call (E_call (by kernel_rfl) rfl) (ref10_Same _ w l (hl.ext ((((((((hn1.ext.trans hn3.ext).trans hx20).then' hp21.only (by simp) (Nat.le_trans (Nat.le_trans hn1.ext.size hn3.ext.size) q4_1l)).trans hx25).then' hx (by simp) (Nat.le_trans (Nat.le_trans hn1.ext.size hn3.ext.size) q4_1l)).trans hx30).trans hn31.ext).then' hp33.only (by simp) (Nat.le_trans (Nat.le_trans (Nat.le_trans (Nat.le_trans (Nat.le_trans (Nat.le_trans hn1.ext.size hn3.ext.size) hx20.size) hp21.only.size) hx25.size) hx.size) hx30.size))) s128 (fR (fcheck (kof ty 4) (pjoin pr nm) md lk sz) (pjoin pr nm) lk sz) (hr129.rows.ext (hn31.ext.then' hp33.only (by simp) (Nat.le_refl _))) (by first | first | omega | (simp; done) | (simp; omega) | rfl | (simp <;> omega))) rfl rfl rfl ?_
          rintro _ h24 ⟨rfl, rfl⟩
          refine L_yld (Y_notd rfl) rfl rfl rfl ?_
          refine L_yld (Y_pick_f rfl rfl) rfl rfl rfl ?_
          refine L_nil ?_
          exact X_cut () (.cons (i := 107) (lkb rfl (by simp only [eq_false c35, eq_false c36, true_and, and_true, false_and, and_false, true_or, or_true, false_or, or_false, not_true_eq_false, not_false_eq_true, decide_true, decide_false, Bool.true_eq_false, Bool.false_eq_true, eq_self, Bool.decide_eq_true])) (.cons (i := 7) rfl (.cons (i := 6) rfl (.cons (i := 5) rfl (.cons (i := 4) rfl (.nil _)))))) rfl
    rintro _ h24 rfl
    show W _ _ _ _ _ [(107, .bool (decide (((¬ (fcheck (kof ty 4) (pjoin pr nm) md lk sz) = 0) ∨ (¬ ((fT (fcheck (kof ty 4) (pjoin pr nm) md lk sz) (kof ty 4)) = ty ∧ (fN (fcheck (kof ty 4) (pjoin pr nm) md lk sz) (pjoin pr nm)) = nm ∧ (fP (fcheck (kof ty 4) (pjoin pr nm) md lk sz) (pjoin pr nm)) = pr ∧ (fL (fcheck (kof ty 4) (pjoin pr nm) md lk sz) lk) = lk ∧ (fM (fcheck (kof ty 4) (pjoin pr nm) md lk sz) md) = md ∧ (fZ (fcheck (kof ty 4) (pjoin pr nm) md lk sz) sz) = sz))) ∨ (¬ (l = (fR (fcheck (kof ty 4) (pjoin pr nm) md lk sz) (pjoin pr nm) lk sz)))))), (7, .pointer (some ⟨r4_1, 0, none⟩)), (6, .int .i64 6), (5, .int .i64 0), (4, .pointer (some ⟨h1.size, 0, none⟩))] _
    refine W_splitd rfl (fun b => ?_) (fun b => ?_)
    · refine W_seq ?_
      refine W_region ?_
      refine L_yld (Y_build (v := .agg #[.int .i64 0, str [], .int .i64 0, str [], .int .i64 0]) (pv := []) (evp (is := []) (os := []) (vs := []) rfl rfl) (fun _ => by kernel_rfl)) rfl rfl rfl ?_
      refine L_yld (Y_move rfl) rfl rfl rfl ?_
      refine L_dos (D_store (us := [.int .i64 0, str [], .int .i64 0, str [], .int .i64 0]) (show _ = some 5 by kernel_rfl) rfl rfl rfl (by simp [Value.oneCell']) (hk4.ext ((((((hx20.then' hp21.only (by simp) q4_1l).trans hx25).then' hx (by simp) q4_1l).trans hx30).trans hn31.ext).then' hp33.only (by simp) (Nat.le_trans (Nat.le_trans (Nat.le_trans (Nat.le_trans hx20.size hp21.only.size) hx25.size) hx.size) hx30.size))) (by simp)) rfl rfl ?_
      rintro h25 hp37
      have hk38 : Blk h25 h1.size [.int .i64 0, str [], .int .i64 0, str [], .int .i64 0] := hp37.blk
      refine L_yld (Y_assign rfl) rfl rfl rfl ?_
      refine L_nil ?_
      refine X_then ?_
      refine W_sub _ (.cons (i := 5) rfl (.cons (i := 7) rfl (.cons (i := 4) rfl (.nil _)))) ?_
      refine W_ret ?_
      refine X_then_ret ?_
      refine X_retv2 rfl (RV.agg rfl Tryd.underlying46 rfl (show _ = some 5 by kernel_rfl) hk38) rfl ?_
      have hm := rres_not (ty := ty) (md := md) hf1 (by rw [← hkm]; exact fun e => b.elim (fun b => b.elim (fun b => b e.1) (fun b => b e.2.1)) (fun b => b e.2.2))
      exact ⟨by rw [hm, oE_nil h0]; rfl, (((((((((hn1.ext.trans hn3.ext).trans hx20).then' hp21.only (by simp) (Nat.le_trans (Nat.le_trans hn1.ext.size hn3.ext.size) q4_1l)).trans hx25).then' hx (by simp) (Nat.le_trans (Nat.le_trans hn1.ext.size hn3.ext.size) q4_1l)).trans hx30).trans hn31.ext).then' hp33.only (by simp) (Nat.le_trans (Nat.le_trans (Nat.le_trans (Nat.le_trans (Nat.le_trans (Nat.le_trans hn1.ext.size hn3.ext.size) hx20.size) hp21.only.size) hx25.size) hx.size) hx30.size)).then' hp37.only (by simp) hn1.ext.size)⟩
    · refine W_skip ?_
      refine X_then ?_
      refine W_sub _ (.cons (i := 7) rfl (.cons (i := 5) rfl (.cons (i := 4) rfl (.nil _)))) ?_
      refine W_seq ?_
      refine W_region ?_
      refine L_yld (Y_ldbox (us := [.int .i64 (kof ty 4), str (pjoin pr nm), .int .i64 (md), str lk, .int .i64 (sz)]) Tryd.underlying46 rfl (show _ = some 5 by kernel_rfl) rfl (hbb.ext ((hx30.trans hn31.ext).then' hp33.only (by simp) hx30.size)) rfl) rfl rfl rfl ?_
      refine L_dos (D_store (us := [.int .i64 (kof ty 4), str (pjoin pr nm), .int .i64 (md), str lk, .int .i64 (sz)]) (show _ = some 5 by kernel_rfl) rfl rfl rfl (by simp [Value.oneCell']) (hk4.ext ((((((hx20.then' hp21.only (by simp) q4_1l).trans hx25).then' hx (by simp) q4_1l).trans hx30).trans hn31.ext).then' hp33.only (by simp) (Nat.le_trans (Nat.le_trans (Nat.le_trans (Nat.le_trans hx20.size hp21.only.size) hx25.size) hx.size) hx30.size))) (by simp)) rfl rfl ?_
      rintro h26 hp39
      have hk40 : Blk h26 h1.size [.int .i64 (kof ty 4), str (pjoin pr nm), .int .i64 (md), str lk, .int .i64 (sz)] := hp39.blk
      refine L_yld (Y_assign rfl) rfl rfl rfl ?_
      refine L_nil ?_
      refine X_then ?_
      refine W_sub _ (.cons (i := 5) rfl (.cons (i := 4) rfl (.nil _))) ?_
      refine W_ret ?_
      refine X_retv2 rfl (RV.agg rfl Tryd.underlying46 rfl (show _ = some 5 by kernel_rfl) hk40) rfl ?_
      have hm := rres_yes (ty := ty) (md := md) hf1 (by rw [← hkm]; exact ⟨Classical.not_not.1 (fun x => b (.inl (.inl x))), Classical.not_not.1 (fun x => b (.inl (.inr x))), Classical.not_not.1 (fun x => b (.inr x))⟩)
      exact ⟨by rw [hm, ← hkm]; rfl, (((((((((hn1.ext.trans hn3.ext).trans hx20).then' hp21.only (by simp) (Nat.le_trans (Nat.le_trans hn1.ext.size hn3.ext.size) q4_1l)).trans hx25).then' hx (by simp) (Nat.le_trans (Nat.le_trans hn1.ext.size hn3.ext.size) q4_1l)).trans hx30).trans hn31.ext).then' hp33.only (by simp) (Nat.le_trans (Nat.le_trans (Nat.le_trans (Nat.le_trans (Nat.le_trans (Nat.le_trans hn1.ext.size hn3.ext.size) hx20.size) hp21.only.size) hx25.size) hx.size) hx30.size)).then' hp39.only (by simp) hn1.ext.size)⟩
end Go.Xp
