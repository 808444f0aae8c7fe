/- Layer 10 (fit): Merge, the reference's side. -/
import Derived.Test.YtdmhigknppkniaaGreatDoorMergeL
set_option linter.unusedSimpArgs false
set_option linter.unusedVariables false
set_option linter.unusedSectionVars false
set_option maxRecDepth 100000
namespace Go.Xp
open Go.Proofs

theorem ref10_Same (h : Heap) (v : Value) (a : List Rec) (ha : Rows recS h v a) (u : Value) (b : List Rec) (hb : Rows recS h u b) (hl0 : a.length ≤ 140737488355328) : Cal Tryz.prog 75 #[v, u] h (fun v h' => v = .bool (decide (a = b)) ∧ h' = h) := by
 refine Ce Tryz.func75 fun σ => ?_
 refine Wa ?_
 refine Ln (Xt (Wq (Wq (Wg ?_))))
 refine Mv ?_
 refine Ly (Y_lenr Tryz.underlying74 rfl ha) ?_
 refine Mv ?_
 refine Ly (Y_lenr Tryz.underlying74 rfl hb) ?_
 refine Ly Yne ?_
 refine Nx ?_
 refine Sd (fun c => ?_) fun c => ?_
 ·refine Wa ?_
  refine Ln (Xt (Wt (Xr ?_)))
  refine Xv1 ?_
  exact ⟨by rw [decide_eq_false (fun e => c (by rw [e]))], rfl⟩
 refine Ws ?_
 have hlen : a.length = b.length := by omega
 refine Wq (Wq (Wg ?_))
 refine Av ?_
 refine Ln (Xt (Wb ?_))
 refine W_loop (S := Nat) (fun i => [(0, v), (1, u), (5, .int .i64 ((i : Int)))]) (fun i h' => i ≤ a.length ∧ (∀ k, k < i → at_rec a k = at_rec b k) ∧ h' = h) (fun i => a.length - i) 0 (tk3 0 1 5) ?_ ?_
 ·exact ⟨Nat.zero_le _, (fun _ hk => absurd hk (Nat.not_lt_zero _)), rfl⟩
 rintro i h ⟨hi, hip, rfl⟩
 show W _ _ _ _ _ [(0, v), (1, u), (5, .int .i64 ((i : Int)))] _
 refine Wq (Wq (Wg ?_))
 refine M2 ?_
 refine Ly (Y_lenr Tryz.underlying74 rfl ha) ?_
 refine Ly Yls ?_
 refine Nx ?_
 refine Sd (fun hl => ?_) fun hl => ?_
 ·refine Wk (Xt (Wq (Wb (Wq ?_))))
  refine W_quiet (fun h' => h' = h) (by kernel_rfl) (by kernel_rfl) rfl ?_
  refine Qm ?_
  refine Qm ?_
  refine Qy (Y_idxr Tryz.underlying74 (show _ = some 2 by kernel_rfl) rfl rfl rfl ha (by omega) (by omega)) ?_
  refine Qy (Y_ldrA0 (k := ((i : Int)).toNat) (us := [str ((at_rec a ((i : Int)).toNat).key), str ((at_rec a ((i : Int)).toNat).val)]) Tryz.underlying139 rfl (show _ = some 2 by kernel_rfl) rfl rfl ha (by omega) rfl) ?_
  refine Qm ?_
  refine Qm ?_
  refine Qy (Y_idxr Tryz.underlying74 (show _ = some 2 by kernel_rfl) rfl rfl rfl hb (by omega) (by omega)) ?_
  refine Qy (Y_ldrA0 (k := ((i : Int)).toNat) (us := [str ((at_rec b ((i : Int)).toNat).key), str ((at_rec b ((i : Int)).toNat).val)]) Tryz.underlying139 rfl (show _ = some 2 by kernel_rfl) rfl rfl hb (by omega) rfl) ?_
  refine Qy (Y_decneg (Y_stneq (xs := [str ((at_rec a ((i : Int)).toNat).key), str ((at_rec a ((i : Int)).toNat).val)]) (ys := [str ((at_rec b ((i : Int)).toNat).key), str ((at_rec b ((i : Int)).toNat).val)]) (r := decide (((at_rec a ((i : Int)).toNat).key) = ((at_rec b ((i : Int)).toNat).key) ∧ ((at_rec a ((i : Int)).toNat).val) = ((at_rec b ((i : Int)).toNat).val))) (by kernel_rfl) (by kernel_rfl) (by kernel_rfl) rfl rfl (steq (ks := [.s, .s]) (by kernel_rfl) (by simp [eqks, eqk])))) ?_
  refine LQ_nil ?_
  rintro h rfl
  refine Xt ?_
  refine Wu _ (tk4 25 0 1 5) ?_
  refine Sd (fun hne => ?_) fun hne => ?_
  ·refine Wa ?_
   refine Ln (Xt (Wt (Yr (Xr (Xr (Yr (Xr ?_)))))))
   refine Xv1 ?_
   exact ⟨by rw [decide_eq_false (fun e => hne ⟨by rw [e], by rw [e]⟩)], rfl⟩
  refine Wk (Xb (Xt (Wg ?_)))
  refine Mv ?_
  refine Lad ?_
  refine Av ?_
  refine Ln ?_
  refine X_loop (i + 1) (tk3 0 1 5) ?_ ?_
  ·exact ⟨by omega, (step_ne hip (by have h9 := Classical.not_not.1 hne; rw [Int.toNat_natCast] at h9; exact rec_eq h9)), rfl⟩
  (try dsimp only)
  omega
 refine W_exit ?_
 refine Xe (Xe ?_)
 refine X_block_hit ?_
 refine Xt ?_
 refine Wu _ sN ?_
 refine Wa ?_
 refine Ln (Xt (Wt ?_))
 refine Xv1 ?_
 exact ⟨by rw [decide_eq_true (rec_ext hlen (fun k hk => hip k (by omega)))], rfl⟩

theorem rfold_drop {l : List Rec} {i : Nat} (hi : i < l.length) (p tg : List UInt8) (z : Int) : rfold (l.drop i) p tg z = match rstep (at_rec l i) p tg z with
    | some (p', tg', z') => rfold (l.drop (i + 1)) p' tg' z'
    | none => none := by
  rw [List.drop_eq_getElem_cons hi, at_rec_eq hi]; rfl
theorem rfold_link {l : List Rec} {i : Nat} (hi : i < l.length) (hk : (at_rec l i).key = [108, 105, 110, 107, 112, 97, 116, 104]) (p tg : List UInt8) (z : Int) : rfold (l.drop i) p tg z = rfold (l.drop (i + 1)) p (at_rec l i).val z := by
  rw [rfold_drop hi, rstep, if_pos hk]
theorem rfold_path {l : List Rec} {i : Nat} (hi : i < l.length) (h1 : ¬ (at_rec l i).key = [108, 105, 110, 107, 112, 97, 116, 104]) (hk : (at_rec l i).key = [112, 97, 116, 104]) (p tg : List UInt8) (z : Int) : rfold (l.drop i) p tg z = rfold (l.drop (i + 1)) (at_rec l i).val tg z := by
  rw [rfold_drop hi, rstep, if_neg h1, if_pos hk]
theorem rfold_size {l : List Rec} {i : Nat} (hi : i < l.length) (h1 : ¬ (at_rec l i).key = [108, 105, 110, 107, 112, 97, 116, 104]) (h2 : ¬ (at_rec l i).key = [112, 97, 116, 104]) (hk : (at_rec l i).key = [115, 105, 122, 101]) (ho : nerr (at_rec l i).val 1099511627776 = 0) (p tg : List UInt8) (z : Int) : rfold (l.drop i) p tg z = rfold (l.drop (i + 1)) p tg (nnum (at_rec l i).val 1099511627776) := by
  rw [rfold_drop hi, rstep, if_neg h1, if_neg h2, if_pos hk, if_pos ho]
theorem rfold_bad {l : List Rec} {i : Nat} (hi : i < l.length) (h1 : ¬ (at_rec l i).key = [108, 105, 110, 107, 112, 97, 116, 104]) (h2 : ¬ (at_rec l i).key = [112, 97, 116, 104]) (hk : (at_rec l i).key = [115, 105, 122, 101]) (ho : ¬ nerr (at_rec l i).val 1099511627776 = 0) (p tg : List UInt8) (z : Int) : rfold (l.drop i) p tg z = none := by
  rw [rfold_drop hi, rstep, if_neg h1, if_neg h2, if_pos hk, if_neg ho]
theorem rfold_other {l : List Rec} {i : Nat} (hi : i < l.length) (h1 : ¬ (at_rec l i).key = [108, 105, 110, 107, 112, 97, 116, 104]) (h2 : ¬ (at_rec l i).key = [112, 97, 116, 104]) (h3 : ¬ (at_rec l i).key = [115, 105, 122, 101]) (p tg : List UInt8) (z : Int) : rfold (l.drop i) p tg z = rfold (l.drop (i + 1)) p tg z := by
  rw [rfold_drop hi, rstep, if_neg h1, if_neg h2, if_neg h3]
theorem rfold_nil {l : List Rec} {i : Nat} (hi : l.length ≤ i) (p tg : List UInt8) (z : Int) : rfold (l.drop i) p tg z = some (p, tg, z) := by
  rw [List.drop_eq_nil_of_le hi]; rfl
theorem mres_r (ty md sz : Int) (nm pr lk : List UInt8) (l : List Rec) : mres ty nm pr lk md sz l = mcheck (mkind ty) md ty nm pr lk md sz l (rfold l (pjoin pr nm) lk sz) := (mcheck_rfold _ _ _ _ _ _ _ _ _ _ _ _).symm
theorem rres_none {ty md sz : Int} {nm pr lk : List UInt8} {l : List Rec} (h : rfold l (pjoin pr nm) lk sz = none) : mres ty nm pr lk md sz l = none := by
  rw [mres_r, h]; rfl
theorem rres_not {ty md sz : Int} {nm pr lk : List UInt8} {l : List Rec} {p tg : List UInt8} {z : Int} (h : rfold l (pjoin pr nm) lk sz = some (p, tg, z)) (hn : ¬ mok (mkind ty) md ty nm pr lk md sz l p tg z) : mres ty nm pr lk md sz l = none := by
  rw [mres_r, h]; exact if_neg hn
theorem rres_yes {ty md sz : Int} {nm pr lk : List UInt8} {l : List Rec} {p tg : List UInt8} {z : Int} (h : rfold l (pjoin pr nm) lk sz = some (p, tg, z)) (hn : mok (mkind ty) md ty nm pr lk md sz l p tg z) : mres ty nm pr lk md sz l = some (p, tg, z) := by
  rw [mres_r, h]; exact if_pos hn
/-- The last index of a header type among the first i. -/
def kof (ty : Int) : Nat → Int
  | 0 => -1
  | i + 1 => if byt [53, 48, 50, 49] i = ty then (i : Int) else kof ty i
theorem kof_yes {ty : Int} {i : Nat} (h : byt [53, 48, 50, 49] i = ty) : kof ty (i + 1) = i := if_pos h
theorem kof_no {ty : Int} {i : Nat} (h : ¬ byt [53, 48, 50, 49] i = ty) : kof ty (i + 1) = kof ty i := if_neg h
theorem kof_mkind {ty : Int} (h : 0 ≤ ty ∧ ty ≤ 255) : kof ty 4 = mkind ty := by
  obtain ⟨n, rfl⟩ := Int.eq_ofNat_of_zero_le h.1
  have key : ∀ n : Fin 256, kof ((n.val : Nat) : Int) 4 = mkind ((n.val : Nat) : Int) := by decide +kernel
  exact key ⟨n, by omega⟩

theorem nnum_range (s : List UInt8) : -9223372036854775808 ≤ nnum s 1099511627776 ∧ nnum s 1099511627776 ≤ 9223372036854775807 := by
  unfold nnum
  split
  · rename_i h
    unfold nerr at h
    split at h
    · cases h
    · split at h
      · cases h
      · omega
  · omega
theorem ref10_MergeS (h : Heap) (ty : Int) (nm : List UInt8) (pr : List UInt8) (lk : List UInt8) (md : Int) (sz : Int) (w : Value) (l : List Rec) (hl : Rows recS h w l) (hty : 0 ≤ ty ∧ ty ≤ 255) (hnm : pr.length + 1 + nm.length ≤ 140737488355328) (hlk : lk.length ≤ 140737488355328) (hsz : -9223372036854775808 ≤ sz ∧ sz ≤ 9223372036854775807) (hn : l.length ≤ 140737488355328) (hs : ∀ r ∈ l, r.key.length ≤ 140737488355328 ∧ r.val.length ≤ 140737488355328) : Cal Tryz.prog 30 #[.agg #[.int .u8 (ty), str nm, str pr, str lk, .int .i64 (md), .int .i64 (sz)], w] h (fun v h' => v = .tuple #[.agg #[.int .i64 (oI (mres ty nm pr lk md sz l) (mkind ty)), str (oP (mres ty nm pr lk md sz l)), .int .i64 (oI (mres ty nm pr lk md sz l) md), str (oT (mres ty nm pr lk md sz l)), .int .i64 (oZ (mres ty nm pr lk md sz l))], .int .i64 (oE (mres ty nm pr lk md sz l) l)] ∧ Ext h h') := by
 refine Ce Tryz.func30 fun σ => ?_
 refine Wr ?_
 refine L_mks (M_box rfl) rfl rfl rfl ?_
 rintro _ h1 ⟨rfl, hn1⟩
 have hk2 : Blk h1 h.size [.int .u8 (ty), str nm, str pr, str lk, .int .i64 (md), .int .i64 (sz)] := hn1.blk
 refine L_mks (M_alloc (u := .agg #[.int .i64 0, str [], .int .i64 0, str [], .int .i64 0]) (by kernel_rfl)) rfl rfl rfl ?_
 rintro _ h2 ⟨rfl, hn3⟩
 have hk4 : Blk h2 h1.size [.int .i64 0, str [], .int .i64 0, str [], .int .i64 0] := hn3.blk
 refine Av ?_
 refine Ln (Xt (Wq (Wg ?_)))
 refine An ?_
 refine W_cut (S := Unit) (fun _u => [(5, .int .i64 0), (4, .pointer (some ⟨h1.size, 0, none⟩)), (2, .pointer (some ⟨h.size, 0, none⟩)), (1, w), (6, .int .i64 ((if 0 < l.length then 17 else 6)))]) (fun _u h' => h' = h2) ?_ ?_
 ·refine Wm ?_
  refine Ly (Y_lenr Tryz.underlying74 rfl (hl.ext (hn1.ext.trans hn3.ext))) ?_
  refine Ly (Y_gtr rfl rfl) ?_
  refine Nx ?_
  refine Sd (fun g0 => ?_) fun g0 => ?_
  ·refine Wg ?_
   refine Av ?_
   refine Ln ?_
   refine X_cut (()) (sk4 5 4 2 1 rfl rfl rfl rfl (sk1 6 (lki rfl (by (rw [if_pos (by omega)]))) sN)) ?_
   first | rfl | exact ⟨rfl, rfl⟩
  refine Wk ?_
  refine X_cut (()) (sk4 5 4 2 1 rfl rfl rfl rfl (sk1 6 (lki rfl (by (rw [if_neg (by omega)]))) sN)) ?_
  first | rfl | exact ⟨rfl, rfl⟩
 rintro _u h2 rfl
 show W _ _ _ _ _ [(5, .int .i64 0), (4, .pointer (some ⟨h1.size, 0, none⟩)), (2, .pointer (some ⟨h.size, 0, none⟩)), (1, w), (6, .int .i64 ((if 0 < l.length then 17 else 6)))] _
 refine Wq ?_
 refine W_pers [(5, .int .i64 0), (4, .pointer (some ⟨h1.size, 0, none⟩)), (2, .pointer (some ⟨h.size, 0, none⟩)), (1, w), (6, .int .i64 ((if 0 < l.length then 17 else 6)))] (tk5 5 4 2 1 6) (by kernel_rfl) ?_
 refine LPc 0 (.pointer (some ⟨h.size, 0 + 2, none⟩)) [] ?_ ?_
 ·intro h3 hx5
  exact Sf 2
 refine LPc 1 (str pr) [(0, 19)] ?_ ?_
 ·intro h4 hx6
  rintro _ rfl
  exact Sb Tryz.underlying9 (hk2.ext (hn3.ext.trans hx6))
 refine LPc 2 (.pointer (some ⟨h.size, 0 + 1, none⟩)) [] ?_ ?_
 ·intro h5 hx7
  exact Sf 1
 refine LPc 3 (str nm) [(2, 21)] ?_ ?_
 ·intro h6 hx8
  rintro _ rfl
  exact Sb Tryz.underlying9 (hk2.ext (hn3.ext.trans hx8))
 refine LPc 4 (str (pjoin pr nm)) [(1, 20), (3, 22)] ?_ ?_
 ·intro h7 hx9
  rintro _ rfl
  rintro _ rfl
  refine Nn ?_
  refine Stp_call (E_call (by kernel_rfl) rfl) (ref08_Join _ pr nm (by first | first | omega | (simp; done) | (simp; omega) | rfl | (simp <;> omega))) rfl ?_
  rintro _ h7 ⟨rfl, rfl⟩
  exact ⟨(Ext.refl _), rfl⟩
 refine LPc 5 (.pointer (some ⟨h.size, 0 + 4, none⟩)) [] ?_ ?_
 ·intro h8 hx10
  exact Sf 4
 refine LPc 6 (.int .i64 (md)) [(5, 24)] ?_ ?_
 ·intro h9 hx11
  rintro _ rfl
  exact Sb Tryz.underlying3 (hk2.ext (hn3.ext.trans hx11))
 refine LPc 7 (.pointer (some ⟨h.size, 0 + 3, none⟩)) [] ?_ ?_
 ·intro h10 hx12
  exact Sf 3
 refine LPc 8 (str lk) [(7, 26)] ?_ ?_
 ·intro h11 hx13
  rintro _ rfl
  exact Sb Tryz.underlying9 (hk2.ext (hn3.ext.trans hx13))
 refine LPc 9 (.pointer (some ⟨h.size, 0 + 5, none⟩)) [] ?_ ?_
 ·intro h12 hx14
  exact Sf 5
 refine LPc 10 (.int .i64 (sz)) [(9, 28)] ?_ ?_
 ·intro h13 hx15
  rintro _ rfl
  exact Sb Tryz.underlying2 (hk2.ext (hn3.ext.trans hx15))
 refine LPc 11 (.agg #[.int .i64 (-1), str (pjoin pr nm), .int .i64 (md), str lk, .int .i64 (sz)]) [(6, 25), (8, 27), (10, 29), (4, 23)] ?_ ?_
 ·intro h14 hx16
  rintro _ rfl
  rintro _ rfl
  rintro _ rfl
  rintro _ rfl
  exact Sy (Y_build (v := .agg #[.int .i64 (-1), str (pjoin pr nm), .int .i64 (md), str lk, .int .i64 (sz)]) (pv := [(0, .int .i64 (-1)), (1, str (pjoin pr nm)), (2, .int .i64 (md)), (3, str lk), (4, .int .i64 (sz))]) (evp (is := [0, 1, 2, 3, 4]) (os := [.const (.int .i64 (-1)), .tmp 23, .tmp 25, .tmp 27, .tmp 29]) (vs := [.int .i64 (-1), str (pjoin pr nm), .int .i64 (md), str lk, .int .i64 (sz)]) rfl rfl) (fun _ => by kernel_rfl))
 refine LP_op 12 (fun hh vv => ∃ r4_1, vv = .pointer (some ⟨r4_1, 0, none⟩) ∧ Blk hh r4_1 [.int .i64 0, str [], .int .i64 0, str [], .int .i64 0] ∧ h2.size ≤ r4_1) [] rfl rfl (by kernel_rfl) (fun _ _ _ x_ p_ => by obtain ⟨r4_1, rfl, q4_1, q4_1l⟩ := p_; exact ⟨_, rfl, q4_1.ext x_, q4_1l⟩) ?_ ?_
 ·intro h15 hx17
  refine Nn ?_
  refine Stp_mks (M_alloc (u := .agg #[.int .i64 0, str [], .int .i64 0, str [], .int .i64 0]) (by kernel_rfl)) rfl ?_
  rintro _ h16 ⟨rfl, hn18⟩
  have hk19 : Blk h16 h15.size [.int .i64 0, str [], .int .i64 0, str [], .int .i64 0] := hn18.blk
  exact ⟨hn18.ext, ⟨h15.size, rfl, hk19, hx17.size⟩⟩
 refine LP_tail rfl 13 [(11, 30), (12, 7)] rfl rfl (by kernel_rfl) (by kernel_rfl) (by kernel_rfl) rfl ?_
 intro h17 hx20
 rintro _ rfl
 rintro _ ⟨r4_1, rfl, q4_1, q4_1l⟩
 refine Nn ?_
 refine Lds [.int .i64 (-1), str (pjoin pr nm), .int .i64 (md), str lk, .int .i64 (sz)] q4_1 ?_
 rintro h18 hp21
 have hk22 : Blk h18 r4_1 [.int .i64 (-1), str (pjoin pr nm), .int .i64 (md), str lk, .int .i64 (sz)] := hp21.blk
 refine Ln (Xt (Wq (Wg ?_)))
 refine L_mks (M_litb (l := [53, 48, 50, 49]) (cells := [.int .u8 53, .int .u8 48, .int .u8 50, .int .u8 49]) (pv := [(0, .int .u8 53), (1, .int .u8 48), (2, .int .u8 50), (3, .int .u8 49)]) (E := 5) (evp (is := [0, 1, 2, 3]) (os := [.const (.int .u8 53), .const (.int .u8 48), .const (.int .u8 50), .const (.int .u8 49)]) (vs := [.int .u8 53, .int .u8 48, .int .u8 50, .int .u8 49]) rfl rfl) rfl rfl (fun _ => by kernel_rfl)) rfl rfl rfl ?_
 rintro v23 h19 ⟨ho24, hx25⟩
 refine Av ?_
 refine Ln (Xt (Wq (Wq (Wg ?_))))
 refine Av ?_
 refine Ln (Xt (Wb ?_))
 refine W_loop (S := Nat) (fun i => [(8, v23), (7, .pointer (some ⟨r4_1, 0, none⟩)), (5, .int .i64 0), (4, .pointer (some ⟨h1.size, 0, none⟩)), (2, .pointer (some ⟨h.size, 0, none⟩)), (1, w), (6, .int .i64 ((if 0 < l.length then 17 else 6))), (9, .int .i64 ((i : Int)))]) (fun i h' => i ≤ 4 ∧ Only [r4_1] h19 h' ∧ Blk h' r4_1 [.int .i64 (kof ty i), str (pjoin pr nm), .int .i64 md, str lk, .int .i64 sz]) (fun i => 4 - i) 0 (tk8 8 7 5 4 2 1 6 9) ?_ ?_
 ·exact ⟨by omega, Only.refl _ _, (hk22.ext hx25)⟩
 rintro i h20 ⟨hi, hx, hbb⟩
 show W _ _ _ _ _ [(8, v23), (7, .pointer (some ⟨r4_1, 0, none⟩)), (5, .int .i64 0), (4, .pointer (some ⟨h1.size, 0, none⟩)), (2, .pointer (some ⟨h.size, 0, none⟩)), (1, w), (6, .int .i64 ((if 0 < l.length then 17 else 6))), (9, .int .i64 ((i : Int)))] _
 refine Wq (Wq (Wg ?_))
 refine Mv ?_
 refine Ly Yls ?_
 refine Nx ?_
 refine Sd (fun h4 => ?_) fun h4 => ?_
 ·refine Wk (Xt (Wq (Wb (Wq ?_))))
  refine W_quiet (fun h' => h' = h20) (by kernel_rfl) (by kernel_rfl) rfl ?_
  refine Qm ?_
  refine Qm ?_
  refine Qy (Y_idx Tryz.underlying22 (show _ = some 1 by kernel_rfl) rfl rfl (ho24.only1 hx (ntl q4_1.lt hp21.only.size)).bytes (by first | omega | (simp; done) | (simp; omega)) (by first | omega | (simp; done) | (simp; omega))) ?_
  refine Qy (Y_ldbyte Tryz.underlying5 rfl rfl (ho24.only1 hx (ntl q4_1.lt hp21.only.size)).bytes (by first | omega | (simp; done) | (simp; omega)) (by first | omega | (simp; done) | (simp; omega))) ?_
  refine Qy (Y_fieldAddr (off := 0) (by kernel_rfl) rfl rfl) ?_
  refine Qy (Y_ldblk Tryz.underlying5 rfl rfl (hk2.ext ((((hn3.ext.trans hx20).then' hp21.only (by simp) (nt hn3.ext.size q4_1l)).trans hx25).then' hx (by simp) (nt hn3.ext.size q4_1l))) rfl) ?_
  refine Qy (Y_eql rfl rfl) ?_
  refine LQ_nil ?_
  rintro h20 rfl
  refine Xt ?_
  refine Wu _ (sk1 42 rfl (tk8 8 7 5 4 2 1 6 9)) ?_
  refine Sd (fun hy => ?_) fun hy => ?_
  ·have hy : (byt [53, 48, 50, 49] ((i : Int)).toNat) = ty := hy
   refine Wg ?_
   refine Mv ?_
   refine Lf 0 ?_
   refine Lds [.int .i64 ((i : Int))] hbb ?_
   rintro h21 hp26
   have hk27 : Blk h21 r4_1 [.int .i64 ((i : Int)), str (pjoin pr nm), .int .i64 (md), str lk, .int .i64 (sz)] := hp26.blk
   refine Ln (Xb (Xt (Wg ?_)))
   refine Mv ?_
   refine Ly (Y_add rfl rfl (by first | omega | (simp; done) | (simp; omega)) (by first | omega | (simp; done) | (simp; omega))) ?_
   refine Av ?_
   refine Ln ?_
   refine X_loop (i + 1) (tk8 8 7 5 4 2 1 6 9) ?_ ?_
   ·exact ⟨by omega, (Only.trans (Only.trans (Only.refl _ _) hx (fun b_ hb_ => .inl (by simp only [List.mem_cons, List.not_mem_nil, or_false] at hb_ ⊢; omega))) hp26.only (fun b_ hb_ => .inl (by simp only [List.mem_cons, List.not_mem_nil, or_false] at hb_ ⊢; omega))), by rw [kof_yes (i := i) hy]; exact hk27⟩
   (try dsimp only)
   omega
  have hy : ¬ ((byt [53, 48, 50, 49] ((i : Int)).toNat) = ty) := hy
  refine Wk (Xb (Xt (Wg ?_)))
  refine Mv ?_
  refine Ly (Y_add rfl rfl (by first | omega | (simp; done) | (simp; omega)) (by first | omega | (simp; done) | (simp; omega))) ?_
  refine Av ?_
  refine Ln ?_
  refine X_loop (i + 1) (tk8 8 7 5 4 2 1 6 9) ?_ ?_
  ·exact ⟨by omega, (Only.trans (Only.refl _ _) hx (fun b_ hb_ => .inl (by simp only [List.mem_cons, List.not_mem_nil, or_false] at hb_ ⊢; omega))), by rw [kof_no (i := i) hy]; exact hbb⟩
  (try dsimp only)
  omega
 refine W_exit ?_
 refine Xe (Xe ?_)
 refine X_block_hit ?_
 refine Xt ?_
 obtain rfl : i = 4 := by omega
 have hkm := kof_mkind hty
 refine Wq (Wq (Wg ?_))
 refine Av ?_
 refine Ln (Xt (Wb ?_))
 refine W_loop (S := Nat × List UInt8 × List UInt8 × Int) (fun (i, p, tg, z) => [(7, .pointer (some ⟨r4_1, 0, none⟩)), (4, .pointer (some ⟨h1.size, 0, none⟩)), (2, .pointer (some ⟨h.size, 0, none⟩)), (1, w), (6, .int .i64 ((if 0 < l.length then 17 else 6))), (10, .int .i64 ((i : Int)))]) (fun (i, p, tg, z) h' => (i ≤ l.length ∧ rfold l (pjoin pr nm) lk sz = rfold (l.drop i) p tg z ∧ p.length ≤ 140737488355328 ∧ tg.length ≤ 140737488355328 ∧ -9223372036854775808 ≤ z ∧ z ≤ 9223372036854775807) ∧ Only [r4_1] h20 h' ∧ Blk h' r4_1 [.int .i64 (kof ty 4), str p, .int .i64 md, str tg, .int .i64 z]) (fun (i, p, tg, z) => l.length - i) (0, pjoin pr nm, lk, sz) (tk6 7 4 2 1 6 10) ?_ ?_
 ·exact ⟨⟨by omega, rfl, by have := pjoin_len pr nm; show (pjoin pr nm).length ≤ _; omega, hlk, hsz.1, hsz.2⟩, Only.refl _ _, hbb⟩
 rintro ⟨i, p, tg, z⟩ h22 ⟨⟨hi, hf, hp9, ht9, hz8, hz9⟩, hx2, hbb2⟩
 show W _ _ _ _ _ [(7, .pointer (some ⟨r4_1, 0, none⟩)), (4, .pointer (some ⟨h1.size, 0, none⟩)), (2, .pointer (some ⟨h.size, 0, none⟩)), (1, w), (6, .int .i64 ((if 0 < l.length then 17 else 6))), (10, .int .i64 ((i : Int)))] _
 refine Wq (Wq (Wg ?_))
 refine M2 ?_
 have me1 := ((hn1.ext.trans hn3.ext).trans hx20).then' hp21.only (by simp) (nt (nt hn1.ext.size hn3.ext.size) q4_1l)
 have me2 := (me1.trans hx25).then' hx (by simp) (nt (nt hn1.ext.size hn3.ext.size) q4_1l)
 have me3 := me2.then' hx2 (by simp) (nt (nt hn1.ext.size hn3.ext.size) q4_1l)
 refine Ly (Y_lenr Tryz.underlying74 rfl (hl.ext me3)) ?_
 refine Ly Yls ?_
 refine Nx ?_
 refine Sd (fun hlt => ?_) fun hlt => ?_
 ·refine Ws ?_
  have hlt9 : i < l.length := by omega
  have hv9 : (at_rec l (i : Int).toNat).val.length ≤ 140737488355328 := mrec_len hs hlt9
  refine Wq (Wb (Wq (Wg ?_)))
  refine M2 ?_
  refine Ly (Y_idxr Tryz.underlying74 (show _ = some 2 by kernel_rfl) rfl rfl rfl (hl.ext me3) (by first | omega | (simp; done) | (simp; omega)) (by first | omega | (simp; done) | (simp; omega))) ?_
  refine Ly (Y_fldr (k := ((i : Int)).toNat) (off := 0) (by kernel_rfl) rfl (hl.ext me3) (by first | omega | (simp; done) | (simp; omega))) ?_
  refine Ly (Y_ldr1 (off := 0) (k := ((i : Int)).toNat) Tryz.underlying9 rfl rfl rfl (hl.ext me3) (by first | omega | (simp; done) | (simp; omega)) rfl) ?_
  refine Nx ?_
  refine Wu _ (tk7 55 7 4 2 1 6 10) ?_
  refine Wb (Wq (Wg ?_))
  refine Ly (Y_seql rfl rfl) ?_
  refine An ?_
  refine Sd (fun k1 => ?_) fun k1 => ?_
  ·refine Wg ?_
   refine M2 ?_
   refine Ly (Y_idxr Tryz.underlying74 (show _ = some 2 by kernel_rfl) rfl rfl rfl (hl.ext me3) (by first | omega | (simp; done) | (simp; omega)) (by first | omega | (simp; done) | (simp; omega))) ?_
   refine Ly (Y_fldr (k := ((i : Int)).toNat) (off := 1) (by kernel_rfl) rfl (hl.ext me3) (by first | omega | (simp; done) | (simp; omega))) ?_
   refine Ly (Y_ldr1 (off := 1) (k := ((i : Int)).toNat) Tryz.underlying9 rfl rfl rfl (hl.ext me3) (by first | omega | (simp; done) | (simp; omega)) rfl) ?_
   refine Lf 3 ?_
   refine Lds [str ((at_rec l ((i : Int)).toNat).val)] hbb2 ?_
   rintro h23 hp28
   have hk29 : Blk h23 r4_1 [.int .i64 ((kof ty 4)), str p, .int .i64 (md), str ((at_rec l ((i : Int)).toNat).val), .int .i64 (z)] := hp28.blk
   refine Ln (Xb (Xb (Xt ?_)))
   refine Wu _ (tk6 7 4 2 1 6 10) ?_
   refine Wg ?_
   refine Mv ?_
   refine Ly (Y_add rfl rfl (by first | omega | (simp; done) | (simp; omega)) (by first | omega | (simp; done) | (simp; omega))) ?_
   refine Av ?_
   refine Ln ?_
   refine X_loop ((i + 1, p, (at_rec l i).val, z)) (tk6 7 4 2 1 6 10) ?_ ?_
   ·exact ⟨⟨by omega, by rw [hf]; exact rfold_link hlt9 k1 _ _ _, hp9, hv9, hz8, hz9⟩, (Only.trans (Only.trans (Only.refl _ _) hx2 (fun b_ hb_ => .inl (by simp only [List.mem_cons, List.not_mem_nil, or_false] at hb_ ⊢; omega))) hp28.only (fun b_ hb_ => .inl (by simp only [List.mem_cons, List.not_mem_nil, or_false] at hb_ ⊢; omega))), hk29⟩
   (try dsimp only)
   omega
  refine Wr ?_
  refine Ly (Y_seql rfl rfl) ?_
  refine An ?_
  refine Sd (fun k2 => ?_) fun k2 => ?_
  ·refine Wg ?_
   refine M2 ?_
   refine Ly (Y_idxr Tryz.underlying74 (show _ = some 2 by kernel_rfl) rfl rfl rfl (hl.ext me3) (by first | omega | (simp; done) | (simp; omega)) (by first | omega | (simp; done) | (simp; omega))) ?_
   refine Ly (Y_fldr (k := ((i : Int)).toNat) (off := 1) (by kernel_rfl) rfl (hl.ext me3) (by first | omega | (simp; done) | (simp; omega))) ?_
   refine Ly (Y_ldr1 (off := 1) (k := ((i : Int)).toNat) Tryz.underlying9 rfl rfl rfl (hl.ext me3) (by first | omega | (simp; done) | (simp; omega)) rfl) ?_
   refine Lf 1 ?_
   refine Lds [str ((at_rec l ((i : Int)).toNat).val)] hbb2 ?_
   rintro h24 hp30
   have hk31 : Blk h24 r4_1 [.int .i64 ((kof ty 4)), str ((at_rec l ((i : Int)).toNat).val), .int .i64 (md), str tg, .int .i64 (z)] := hp30.blk
   refine Ln (Xb (Xb (Xt ?_)))
   refine Wu _ (tk6 7 4 2 1 6 10) ?_
   refine Wg ?_
   refine Mv ?_
   refine Ly (Y_add rfl rfl (by first | omega | (simp; done) | (simp; omega)) (by first | omega | (simp; done) | (simp; omega))) ?_
   refine Av ?_
   refine Ln ?_
   refine X_loop ((i + 1, (at_rec l i).val, tg, z)) (tk6 7 4 2 1 6 10) ?_ ?_
   ·exact ⟨⟨by omega, by rw [hf]; exact rfold_path hlt9 k1 k2 _ _ _, hv9, ht9, hz8, hz9⟩, (Only.trans (Only.trans (Only.refl _ _) hx2 (fun b_ hb_ => .inl (by simp only [List.mem_cons, List.not_mem_nil, or_false] at hb_ ⊢; omega))) hp30.only (fun b_ hb_ => .inl (by simp only [List.mem_cons, List.not_mem_nil, or_false] at hb_ ⊢; omega))), hk31⟩
   (try dsimp only)
   omega
  refine Wr ?_
  refine Ly (Y_seql rfl rfl) ?_
  refine An ?_
  refine Wu _ (tk7 72 7 4 2 1 6 10) ?_
  refine Sd (fun k3 => ?_) fun k3 => ?_
  ·refine Wm ?_
   refine Mv ?_
   refine Ly (Y_idxr Tryz.underlying74 (show _ = some 2 by kernel_rfl) rfl rfl rfl (hl.ext me3) (by first | omega | (simp; done) | (simp; omega)) (by first | omega | (simp; done) | (simp; omega))) ?_
   refine Ly (Y_fldr (k := ((i : Int)).toNat) (off := 1) (by kernel_rfl) rfl (hl.ext me3) (by first | omega | (simp; done) | (simp; omega))) ?_
   refine Ly (Y_ldr1 (off := 1) (k := ((i : Int)).toNat) Tryz.underlying9 rfl rfl rfl (hl.ext me3) (by first | omega | (simp; done) | (simp; omega)) rfl) ?_
   refine Lc (ref09_Number _ ((at_rec l ((i : Int)).toNat).val) (1099511627776 : Int) (by first | first | omega | (simp; done) | (simp; omega) | rfl | (simp <;> omega)) (by first | first | omega | (simp; done) | (simp; omega) | rfl | (simp <;> omega))) ?_
   rintro _ h22 ⟨rfl, rfl⟩
   refine Mx ?_
   refine A2 ?_
   refine Nx ?_
   refine Wu _ (tk8 12 11 7 4 2 1 6 10) ?_
   refine Wq (Wq (Wg ?_))
   refine Mv ?_
   refine Ly Yne ?_
   refine Nx ?_
   refine Sd (fun x9 => ?_) fun x9 => ?_
   ·refine Wr ?_
    refine Ly (Yb (.agg #[.int .i64 0, str [], .int .i64 0, str [], .int .i64 0]) [] [] []) ?_
    refine Mv ?_
    have me4 := ((hx20.then' hp21.only (by simp) q4_1l).trans hx25).then' hx (by simp) q4_1l
    refine Lds [.int .i64 0, str [], .int .i64 0, str [], .int .i64 0] (hk4.ext (me4.then' hx2 (by simp) q4_1l)) ?_
    rintro h25 hp32
    have hk33 : Blk h25 h1.size [.int .i64 0, str [], .int .i64 0, str [], .int .i64 0] := hp32.blk
    refine Av ?_
    refine Ln (Xt (Wt (Xr (Yr (Yr (Xr (Xr (Yr (Xr ?_)))))))))
    refine X_retv2 rfl (RVa Tryz.underlying37 hk33) rfl ?_
    have hm := rres_none (ty := ty) (md := md) (hf.trans (rfold_bad hlt9 k1 k2 k3 x9 _ _ _))
    exact ⟨by rw [hm]; rfl, (me3.then' hp32.only (by simp) hn1.ext.size)⟩
   refine Wk (Xt (Wg ?_))
   refine Mv ?_
   refine Lf 4 ?_
   refine Lds [.int .i64 (nnum ((at_rec l ((i : Int)).toNat).val) (1099511627776 : Int))] hbb2 ?_
   rintro h26 hp34
   have hk35 : Blk h26 r4_1 [.int .i64 ((kof ty 4)), str p, .int .i64 (md), str tg, .int .i64 (nnum ((at_rec l ((i : Int)).toNat).val) (1099511627776 : Int))] := hp34.blk
   refine Ln (Xb (Xb (Xt ?_)))
   refine Wu _ (tk6 7 4 2 1 6 10) ?_
   refine Wg ?_
   refine Mv ?_
   refine Ly (Y_add rfl rfl (by first | omega | (simp; done) | (simp; omega)) (by first | omega | (simp; done) | (simp; omega))) ?_
   refine Av ?_
   refine Ln ?_
   refine X_loop ((i + 1, p, tg, nnum (at_rec l i).val 1099511627776)) (tk6 7 4 2 1 6 10) ?_ ?_
   ·have hz := nnum_range (at_rec l i).val
    exact ⟨⟨by omega, by rw [hf]; exact rfold_size hlt9 k1 k2 k3 (Classical.not_not.1 x9) _ _ _, hp9, ht9, hz.1, hz.2⟩, (Only.trans (Only.trans (Only.refl _ _) hx2 (fun b_ hb_ => .inl (by simp only [List.mem_cons, List.not_mem_nil, or_false] at hb_ ⊢; omega))) hp34.only (fun b_ hb_ => .inl (by simp only [List.mem_cons, List.not_mem_nil, or_false] at hb_ ⊢; omega))), hk35⟩
   (try dsimp only)
   omega
  refine Wk (Xb (Xb (Xt (Wg ?_))))
  refine Mv ?_
  refine Ly (Y_add rfl rfl (by first | omega | (simp; done) | (simp; omega)) (by first | omega | (simp; done) | (simp; omega))) ?_
  refine Av ?_
  refine Ln ?_
  refine X_loop ((i + 1, p, tg, z)) (tk6 7 4 2 1 6 10) ?_ ?_
  ·exact ⟨⟨by omega, by rw [hf]; exact rfold_other hlt9 k1 k2 k3 _ _ _, hp9, ht9, hz8, hz9⟩, (Only.trans (Only.refl _ _) hx2 (fun b_ hb_ => .inl (by simp only [List.mem_cons, List.not_mem_nil, or_false] at hb_ ⊢; omega))), hbb2⟩
  (try dsimp only)
  omega
 refine W_exit ?_
 refine Xe (Xe ?_)
 refine X_block_hit ?_
 refine Xt ?_
 have hf1 := hf.trans (rfold_nil (by omega) _ _ _)
 refine Wr ?_
 refine Lg Tryz.underlying37 hbb2 ?_
 refine Lc (ref10_Plan _ (kof ty 4) p md tg z (by first | first | omega | (simp; done) | (simp; omega) | rfl | (simp <;> omega)) (by first | first | omega | (simp; done) | (simp; omega) | rfl | (simp <;> omega)) (by first | first | omega | (simp; done) | (simp; omega) | rfl | (simp <;> omega))) ?_
 rintro _ h27 ⟨s136, rfl, hr137, hx38⟩
 refine Mx ?_
 refine Lx ?_
 refine L_mks (M_alloc (u := .agg #[.int .u8 0, str [], str [], str [], .int .i64 0, .int .i64 0]) (by kernel_rfl)) rfl rfl rfl ?_
 rintro _ h28 ⟨rfl, hn39⟩
 have hk40 : Blk h28 h27.size [.int .u8 0, str [], str [], str [], .int .i64 0, .int .i64 0] := hn39.blk
 refine Lds [.int .u8 (fT (fcheck (kof ty 4) p md tg z) (kof ty 4)), str (fN (fcheck (kof ty 4) p md tg z) p), str (fP (fcheck (kof ty 4) p md tg z) p), str (fL (fcheck (kof ty 4) p md tg z) tg), .int .i64 (fM (fcheck (kof ty 4) p md tg z) md), .int .i64 (fZ (fcheck (kof ty 4) p md tg z) z)] hk40 ?_
 rintro h29 hp41
 have hk42 : Blk h29 h27.size [.int .u8 (fT (fcheck (kof ty 4) p md tg z) (kof ty 4)), str (fN (fcheck (kof ty 4) p md tg z) p), str (fP (fcheck (kof ty 4) p md tg z) p), str (fL (fcheck (kof ty 4) p md tg z) tg), .int .i64 (fM (fcheck (kof ty 4) p md tg z) md), .int .i64 (fZ (fcheck (kof ty 4) p md tg z) z)] := hp41.blk
 refine A2 ?_
 refine Nx ?_
 refine Wu _ (tk8 15 14 13 7 4 2 1 6) ?_
 refine Wq ?_
 refine Wc [(107, .bool (decide (((¬ (fcheck (kof ty 4) p md tg z) = 0) ∨ (¬ ((fT (fcheck (kof ty 4) p md tg z) (kof ty 4)) = ty ∧ (fN (fcheck (kof ty 4) p md tg z) p) = nm ∧ (fP (fcheck (kof ty 4) p md tg z) p) = pr ∧ (fL (fcheck (kof ty 4) p md tg z) tg) = lk ∧ (fM (fcheck (kof ty 4) p md tg z) md) = md ∧ (fZ (fcheck (kof ty 4) p md tg z) z) = sz))) ∨ (¬ (l = (fR (fcheck (kof ty 4) p md tg z) p tg z)))))), (7, .pointer (some ⟨r4_1, 0, none⟩)), (4, .pointer (some ⟨h1.size, 0, none⟩)), (6, .int .i64 ((if 0 < l.length then 17 else 6)))] (fun h' => h' = h29) ?_ ?_
 ·refine Wg ?_
  refine Mv ?_
  refine Ly Yne ?_
  refine Mv ?_
  refine L_splitd (d := 97) rfl (fun c43 => ?_) (fun c43 => ?_)
  ·refine Sk2 ?_
   refine Skp ?_
   refine Ly Ypt ?_
   refine Mv ?_
   refine Sk2 ?_
   refine Sk2 ?_
   refine Ly Ypt ?_
   refine Ln ?_
   exact X_cut () (sk1 107 (lkb rfl (by first | (simp only [eq_true c43, SB]; done) | (simp only [eq_true c43, SB]; rfl))) (sk1 7 rfl (sk1 4 rfl (tk1 6)))) rfl
  refine Lg Tryz.underlying82 hk42 ?_
  have me5 := nt (nt (nt hn3.ext.size hx20.size) hp21.only.size) hx25.size
  have me6 := (hn3.ext.trans hx20).then' hp21.only (by simp) (nt hn3.ext.size q4_1l)
  have me7 := (me6.trans hx25).then' hx (by simp) (nt hn3.ext.size q4_1l)
  have me8 := (me7.then' hx2 (by simp) (nt hn3.ext.size q4_1l)).trans hx38
  have me9 := (me8.trans hn39.ext).then' hp41.only (by simp) (nt (nt (nt me5 hx.size) hx2.size) hx38.size)
  refine Lg Tryz.underlying82 (hk2.ext me9) ?_
  refine Ly (Y_decneg (Y_stneq (xs := [.int .u8 (fT (fcheck (kof ty 4) p md tg z) (kof ty 4)), str (fN (fcheck (kof ty 4) p md tg z) p), str (fP (fcheck (kof ty 4) p md tg z) p), str (fL (fcheck (kof ty 4) p md tg z) tg), .int .i64 (fM (fcheck (kof ty 4) p md tg z) md), .int .i64 (fZ (fcheck (kof ty 4) p md tg z) z)]) (ys := [.int .u8 (ty), str nm, str pr, str lk, .int .i64 (md), .int .i64 (sz)]) (r := decide ((fT (fcheck (kof ty 4) p md tg z) (kof ty 4)) = ty ∧ (fN (fcheck (kof ty 4) p md tg z) p) = nm ∧ (fP (fcheck (kof ty 4) p md tg z) p) = pr ∧ (fL (fcheck (kof ty 4) p md tg z) tg) = lk ∧ (fM (fcheck (kof ty 4) p md tg z) md) = md ∧ (fZ (fcheck (kof ty 4) p md tg z) z) = sz)) (by kernel_rfl) (by kernel_rfl) (by kernel_rfl) rfl rfl (steq (ks := [.i .u8, .s, .s, .s, .i .i64, .i .i64]) (by kernel_rfl) (by simp [eqks, eqk])))) ?_
  refine Ly Ypf ?_
  refine Mv ?_
  refine L_splitd (d := 102) rfl (fun c44 => ?_) (fun c44 => ?_)
  ·refine Sk2 ?_
   refine Sk2 ?_
   refine Ly Ypt ?_
   refine Ln ?_
   exact X_cut () (sk1 107 (lkb rfl (by first | (simp only [eq_false c43, eq_true c44, SB]; done) | (simp only [eq_false c43, eq_true c44, SB]; rfl))) (sk1 7 rfl (sk1 4 rfl (tk1 6)))) rfl
  refine Ly (Y_move rfl) ?_
  refine Mv ?_
  have me10 := nt (nt (nt hn1.ext.size hn3.ext.size) hx20.size) hp21.only.size
  have me11 := nt (nt (nt (nt me10 hx25.size) hx.size) hx2.size) hx38.size
  have me12 := ((me3.trans hx38).trans hn39.ext).then' hp41.only (by simp) me11
  refine Lc (ref10_Same _ w l (hl.ext me12) s136 (fR (fcheck (kof ty 4) p md tg z) p tg z) (hr137.rows.ext (hn39.ext.then' hp41.only (by simp) (Nat.le_refl _))) (by first | first | omega | (simp; done) | (simp; omega) | rfl | (simp <;> omega))) ?_
  rintro _ h29 ⟨rfl, rfl⟩
  refine Ly (Y_notd rfl) ?_
  refine Ly Ypf ?_
  refine Ln ?_
  exact X_cut () (sk1 107 (lkb rfl (by first | (simp only [eq_false c43, eq_false c44, SB]; done) | (simp only [eq_false c43, eq_false c44, SB]; rfl))) (sk1 7 rfl (sk1 4 rfl (tk1 6)))) rfl
 rintro h29 rfl
 refine Sd (fun b => ?_) fun b => ?_
 ·refine Wr ?_
  refine Ly (Yb (.agg #[.int .i64 0, str [], .int .i64 0, str [], .int .i64 0]) [] [] []) ?_
  refine Mv ?_
  have me13 := nt (nt (nt (nt hx20.size hp21.only.size) hx25.size) hx.size) hx2.size
  have me14 := ((hx20.then' hp21.only (by simp) q4_1l).trans hx25).then' hx (by simp) q4_1l
  have me15 := ((me14.then' hx2 (by simp) q4_1l).trans hx38).trans hn39.ext
  refine Lds [.int .i64 0, str [], .int .i64 0, str [], .int .i64 0] (hk4.ext (me15.then' hp41.only (by simp) (nt me13 hx38.size))) ?_
  rintro h30 hp45
  have hk46 : Blk h30 h1.size [.int .i64 0, str [], .int .i64 0, str [], .int .i64 0] := hp45.blk
  refine Av ?_
  refine Ln (Xt (Wt (Xr ?_)))
  refine X_retv2 rfl (RVa Tryz.underlying37 hk46) rfl ?_
  have hm := rres_not (ty := ty) (md := md) hf1 (by rw [← hkm]; exact fun e => b.elim (fun b => b.elim (fun b => b e.1) (fun b => b e.2.1)) (fun b => b e.2.2))
  have me16 := nt (nt (nt hn1.ext.size hn3.ext.size) hx20.size) hp21.only.size
  have me17 := nt (nt (nt (nt me16 hx25.size) hx.size) hx2.size) hx38.size
  have me18 := ((me3.trans hx38).trans hn39.ext).then' hp41.only (by simp) me17
  exact ⟨by rw [hm]; rfl, (me18.then' hp45.only (by simp) hn1.ext.size)⟩
 refine Wk (Xt (Wq (Wg ?_)))
 refine Lg Tryz.underlying37 (hbb2.ext ((hx38.trans hn39.ext).then' hp41.only (by simp) hx38.size)) ?_
 have me19 := nt (nt (nt (nt hx20.size hp21.only.size) hx25.size) hx.size) hx2.size
 have me20 := ((hx20.then' hp21.only (by simp) q4_1l).trans hx25).then' hx (by simp) q4_1l
 have me21 := ((me20.then' hx2 (by simp) q4_1l).trans hx38).trans hn39.ext
 refine Lds [.int .i64 ((kof ty 4)), str p, .int .i64 (md), str tg, .int .i64 (z)] (hk4.ext (me21.then' hp41.only (by simp) (nt me19 hx38.size))) ?_
 rintro h31 hp47
 have hk48 : Blk h31 h1.size [.int .i64 ((kof ty 4)), str p, .int .i64 (md), str tg, .int .i64 (z)] := hp47.blk
 refine Av ?_
 refine Ln (Xt (Wt ?_))
 refine X_retv2 rfl (RVa Tryz.underlying37 hk48) rfl ?_
 have hm := rres_yes (ty := ty) (md := md) hf1 (by rw [← hkm]; exact ⟨Classical.not_not.1 (fun x => b (.inl (.inl x))), Classical.not_not.1 (fun x => b (.inl (.inr x))), Classical.not_not.1 (fun x => b (.inr x))⟩)
 have me22 := nt (nt (nt hn1.ext.size hn3.ext.size) hx20.size) hp21.only.size
 have me23 := nt (nt (nt (nt me22 hx25.size) hx.size) hx2.size) hx38.size
 have me24 := ((me3.trans hx38).trans hn39.ext).then' hp41.only (by simp) me23
 exact ⟨by rw [hm, ← hkm]; rfl, (me24.then' hp47.only (by simp) hn1.ext.size)⟩
end Go.Xp
