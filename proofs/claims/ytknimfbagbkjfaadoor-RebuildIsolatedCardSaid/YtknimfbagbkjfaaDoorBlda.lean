/- Layer 15 (rebuild): Builder.Add. -/
import Derived.Test.YtknimfbagbkjfaaDoorBld
import Derived.Test.YtknimfbagbkjfaaDoorBldo
import Derived.Test.YtknimfbagbkjfaaDoorLaidN
import Derived.Test.YtknimfbagbkjfaaDoorSortC
set_option linter.unusedSimpArgs false
set_option linter.unusedVariables false
set_option linter.unusedSectionVars false
namespace Go.Xp
open Go.Proofs

/-- What a Builder holds. -/
structure BSt (h : Heap) (base b m1 m2 : Nat) (w : Value) (L : List Nod) (D : List (List UInt8)) (F : List (List UInt8 × Int)) : Prop where
  blk : Blk h b [w, .map (some m1), .map (some m2)]
  dirs : SetK h m1 D
  files : MapF h m2 F
  rows : RowsO nodS h base w L
  off : ∀ x ∈ L, Off h x.dv x.data

theorem achk_three {L : List Nod} {D : List (List UInt8)} {F : List (List UInt8 × Int)} {k m z : Int} {p tg : List UInt8} (hx : ∀ q i, aget F q = some i → 0 ≤ i ∧ i < L.length) (e : achk L D F k p m tg z = 0) (k3 : k = 3) : 0 ≤ (aget F tg).getD 0 ∧ ((aget F tg).getD 0).toNat < L.length := by
  have q : (aget F tg).isSome = true := by
    apply Classical.byContradiction
    intro q
    unfold achk at e
    split at e
    · contradiction
    · split at e
      · cases e
      · split at e
        · cases e
        · rw [if_pos ⟨k3, .inl q⟩] at e; cases e
  obtain ⟨i, h9⟩ := Option.isSome_iff_exists.1 q
  have := hx _ _ h9
  rw [h9]; simp; omega
theorem bst_of {h' : Heap} {base b m1 m2 : Nat} {u : Value} {L : List Nod} {D' : List (List UInt8)} {F F' : List (List UInt8 × Int)} {k m : Int} {p tg dat : List UInt8} {y : Nod} {H : Nat} (hf : k = 3 ∨ ∀ d, blk2 y.dv = some d → H ≤ d) (s : BSt h' base b m1 m2 u (L ++ [y]) D' F') (hy : anod L F k p m tg y.dv dat = y) : ∃ u dv', (k = 3 ∨ ∀ d, blk2 dv' = some d → H ≤ d) ∧ BSt h' base b m1 m2 u (L ++ [anod L F k p m tg dv' dat]) D' F' := ⟨u, y.dv, hf, by rw [hy]; exact s⟩
theorem bst_new {h1 h2 h' : Heap} {base base' b m1 m2 : Nat} {u w x1 x2 : Value} {L : List Nod} {D' : List (List UInt8)} {F' : List (List UInt8 × Int)} {y : Nod}
    (own : RowsO nodS h2 base u (L ++ [y])) (ob1 : ∀ x ∈ L, Off h1 x.dv x.data) (ob2 : Off h1 y.dv y.data) (ob3 : RowsO nodS h1 base' w L) (hn : L = [] → w = .slice none 0 0) (y9 : Only (blockOf w).toList h1 h2) (hb : Blk h2 b [w, x1, x2]) (hw : u8no w = true ∧ ∀ k c, w ≠ .int k c) (z : Only [b] h2 h')
    (hb' : Blk h' b [u, .map (some m1), .map (some m2)]) (hD : SetK h' m1 D') (hF : MapF h' m2 F') : BSt h' base b m1 m2 u (L ++ [y]) D' F' :=
  ⟨hb', hD, hF, rowsO_box own (by simp) (off_app ob1 ob2 ob3 hn y9) hb hw.2 z, fun a q => (off_app ob1 ob2 ob3 hn y9 a q).box hb hw.1 z⟩
theorem row_noint {h : Heap} {base : Nat} {w : Value} {L : List Nod} (o : RowsO nodS h base w L) : u8no w = true ∧ ∀ k c, w ≠ .int k c := by
  obtain ⟨⟨o1, ⟨rfl, o2⟩ | ⟨g, cap, extra, rfl, o3, o4, o5, o6⟩⟩, -⟩ := o
  · exact ⟨rfl, fun _ _ q => by cases q⟩
  · exact ⟨rfl, fun _ _ q => by cases q⟩

set_option maxRecDepth 100000 in
set_option maxHeartbeats 2000000 in
theorem builder_Add (h : Heap) (hK : GlbK h) (hE : GlbE h) (h0 : Heap) (hl : SzLe h0 h) (b : Nat) (w : Value) (L : List Nod) (ho : RowsO nodS h h0.size w L) (m1 : Nat) (D : List (List UInt8)) (hD : SetK h m1 D) (m2 : Nat) (F : List (List UInt8 × Int)) (hF : MapF h m2 F) (hb : Blk h b [w, .map (some m1), .map (some m2)]) (k : Int) (p : List UInt8) (m : Int) (tg : List UInt8) (z : Int) (dv : Value) (dat : List UInt8) (hd : Bytes h dv dat) (hm : L.length ≤ 1000000000) (hx : ∀ q i, aget F q = some i → 0 ≤ i ∧ i < L.length) (hp : p.length ≤ 140737488355328) (ht : tg.length ≤ 140737488355328) (hdl : dat.length ≤ 140737488355328) (hne : b ≠ m1 ∧ b ≠ m2 ∧ m1 ≠ m2) (hof : ∀ x ∈ L, Off h x.dv x.data) (hnil : L = [] → w = .slice none 0 0) : Cal Tryd.prog 12 #[.pointer (some ⟨b, 0, none⟩), .agg #[.int .i64 (k), str p, .int .i64 (m), str tg, .int .i64 (z), dv]] h (fun v h' => v = .int .i64 (aerr L D F k p m tg z dat) ∧ ((¬ aerr L D F k p m tg z dat = 0 ∧ Ext h h') ∨ (aerr L D F k p m tg z dat = 0 ∧ Only ([b, m1, m2] ++ (blockOf w).toList) h h' ∧ ∃ u dv', (k = 3 ∨ ∀ d, blk2 dv' = some d → h.size ≤ d) ∧ BSt h' h0.size b m1 m2 u (L ++ [anod L F k p m tg dv' dat]) (adir D k p) (afil L F k p)))) := by
 refine Cal_enter (args := [.pointer (some ⟨b, 0, none⟩), .agg #[.int .i64 (k), str p, .int .i64 (m), str tg, .int .i64 (z), dv]]) Tryd.func12 rfl rfl rfl (fun σ => ?_)
 refine Wr ?_
 refine L_mks (M_box rfl) rfl rfl rfl ?_
 rintro _ h1 ⟨rfl, hn1⟩
 have hk2 : Blk h1 h.size [.int .i64 (k), str p, .int .i64 (m), str tg, .int .i64 (z), dv] := hn1.blk
 refine Av ?_
 refine Nx ?_
 refine W_sub _ (tk3 4 3 0) ?_
 refine Wr ?_
 refine Ly (Y_fieldAddr (off := 0) (by kernel_rfl) rfl rfl) ?_
 refine Ly (Y_ldbox (us := [.int .i64 (k), str p, .int .i64 (m), str tg, .int .i64 (z)]) Tryd.underlying27 rfl (show _ = some 5 by kernel_rfl) rfl hk2 rfl) ?_
 refine L_mks (M_alloc (u := .agg #[.int .i64 0, str [], .int .i64 0, str [], .int .i64 0]) (by kernel_rfl)) rfl rfl rfl ?_
 rintro _ h2 ⟨rfl, hn3⟩
 have hk4 : Blk h2 h1.size [.int .i64 0, str [], .int .i64 0, str [], .int .i64 0] := hn3.blk
 refine L_dos (D_store (us := [.int .i64 (k), str p, .int .i64 (m), str tg, .int .i64 (z)]) (show _ = some 5 by kernel_rfl) rfl rfl rfl (by simp [Value.oneCell']) hk4 (by simp)) rfl rfl ?_
 rintro h3 hp5
 have hk6 : Blk h3 h1.size [.int .i64 (k), str p, .int .i64 (m), str tg, .int .i64 (z)] := hp5.blk
 refine Nx ?_
 refine W_sub _ (tk4 5 4 3 0) ?_
 refine W_seq (W_seq (W_region ?_))
 refine Mv ?_
 refine Ly (Y_ldbox (us := [.int .i64 (k), str p, .int .i64 (m), str tg, .int .i64 (z)]) Tryd.underlying27 rfl (show _ = some 5 by kernel_rfl) rfl hk6 rfl) ?_
 have me1 := (hn1.ext.trans hn3.ext).then' hp5.only (by simp) hn1.ext.size
 refine L_call (E_call (by kernel_rfl) rfl) (builder_Check _ (hK.ext me1) (hE.ext me1) b w L (ho.rows.ext me1) m1 D (hD.ext me1) m2 F (hF.ext me1) (hb.ext me1) k p m tg z hm hx hp ht) rfl rfl rfl ?_
 rintro _ h4 ⟨rfl, hx7⟩
 refine Av ?_
 refine Nx ?_
 refine W_sub _ (tk5 6 5 4 3 0) ?_
 refine Wr ?_
 refine Mv ?_
 refine Ly (Y_neq rfl rfl) ?_
 refine Nx ?_
 refine W_sub _ (tk6 15 6 5 4 3 0) ?_
 refine W_splitd rfl (fun e => ?_) (fun e => ?_)
 ·refine Wr ?_
  refine Mv ?_
  refine Av ?_
  refine Nx ?_
  refine W_sub _ (tk4 4 5 3 0) ?_
  refine W_ret (X_then_ret ?_)
  refine X_ret1 rfl rfl ?_
  exact ⟨by unfold aerr; rw [if_pos e], .inl ⟨by unfold aerr; rw [if_pos e]; exact e, (me1.trans hx7)⟩⟩
 refine Ws ?_
 refine W_sub _ (tk4 5 4 3 0) ?_
 refine W_seq (W_seq (W_region ?_))
 refine Ly (Y_fieldAddr (off := 5) (by kernel_rfl) rfl rfl) ?_
 have me2 := (hn3.ext.then' hp5.only (by simp) (Nat.le_refl _)).trans hx7
 refine Ly (Y_ldblk Tryd.underlying28 rfl rfl (hk2.ext me2) rfl) ?_
 refine Ly (Y_len Tryd.underlying28 rfl (hd.ext (me1.trans hx7))) ?_
 refine Ly (Y_fieldAddr (off := 4) (by kernel_rfl) rfl rfl) ?_
 refine Ly (Y_ldblk Tryd.underlying2 rfl rfl (hk6.ext hx7) rfl) ?_
 refine Ly (Y_neq rfl rfl) ?_
 refine Nx ?_
 refine W_sub _ (tk5 22 5 4 3 0) ?_
 refine W_splitd rfl (fun sz => ?_) (fun sz => ?_)
 ·refine Wr ?_
  refine Av ?_
  refine Nx ?_
  refine W_sub _ (tk4 4 5 3 0) ?_
  refine W_ret (X_then_ret ?_)
  refine X_ret1 rfl rfl ?_
  exact ⟨by unfold aerr; rw [if_neg e, if_pos sz], .inl ⟨by unfold aerr; rw [if_neg e, if_pos sz]; decide, (me1.trans hx7)⟩⟩
 refine Ws ?_
 refine W_sub _ (tk4 5 4 3 0) ?_
 refine W_seq ?_
 refine W_pers [(5, .pointer (some ⟨h1.size, 0, none⟩)), (4, .int .i64 0), (3, .pointer (some ⟨h.size, 0, none⟩)), (0, .pointer (some ⟨b, 0, none⟩))] (tk4 5 4 3 0) (by kernel_rfl) ?_
 refine LP_op 0 (fun _ vv => .pointer (some ⟨h1.size, 0 + 0, none⟩) = vv) [] rfl rfl (by kernel_rfl) (fun _ _ _ _ p => p) ?_ ?_
 ·intro h5 hx8
  refine Needs_nil ?_
  refine Stp_yld (Y_fieldAddr (off := 0) (by kernel_rfl) rfl rfl) rfl ?_
  exact rfl
 refine LP_op 1 (fun _ vv => .int .i64 (k) = vv) [(0, 23)] rfl rfl (by kernel_rfl) (fun _ _ _ _ p => p) ?_ ?_
 ·intro h6 hx9
  rintro _ rfl
  refine Needs_nil ?_
  refine Stp_yld (Y_ldblk Tryd.underlying3 rfl rfl (hk6.ext (hx7.trans hx9)) rfl) rfl ?_
  exact rfl
 refine LP_op 2 (fun _ vv => .pointer (some ⟨h1.size, 0 + 1, none⟩) = vv) [] rfl rfl (by kernel_rfl) (fun _ _ _ _ p => p) ?_ ?_
 ·intro h7 hx10
  refine Needs_nil ?_
  refine Stp_yld (Y_fieldAddr (off := 1) (by kernel_rfl) rfl rfl) rfl ?_
  exact rfl
 refine LP_op 3 (fun _ vv => str p = vv) [(2, 25)] rfl rfl (by kernel_rfl) (fun _ _ _ _ p => p) ?_ ?_
 ·intro h8 hx11
  rintro _ rfl
  refine Needs_nil ?_
  refine Stp_yld (Y_ldblk Tryd.underlying9 rfl rfl (hk6.ext (hx7.trans hx11)) rfl) rfl ?_
  exact rfl
 refine LP_op 4 (fun _ vv => .pointer (some ⟨h1.size, 0 + 2, none⟩) = vv) [] rfl rfl (by kernel_rfl) (fun _ _ _ _ p => p) ?_ ?_
 ·intro h9 hx12
  refine Needs_nil ?_
  refine Stp_yld (Y_fieldAddr (off := 2) (by kernel_rfl) rfl rfl) rfl ?_
  exact rfl
 refine LP_op 5 (fun _ vv => .int .i64 (m) = vv) [(4, 27)] rfl rfl (by kernel_rfl) (fun _ _ _ _ p => p) ?_ ?_
 ·intro h10 hx13
  rintro _ rfl
  refine Needs_nil ?_
  refine Stp_yld (Y_ldblk Tryd.underlying3 rfl rfl (hk6.ext (hx7.trans hx13)) rfl) rfl ?_
  exact rfl
 refine LP_op 6 (fun _ vv => .pointer (some ⟨h1.size, 0 + 3, none⟩) = vv) [] rfl rfl (by kernel_rfl) (fun _ _ _ _ p => p) ?_ ?_
 ·intro h11 hx14
  refine Needs_nil ?_
  refine Stp_yld (Y_fieldAddr (off := 3) (by kernel_rfl) rfl rfl) rfl ?_
  exact rfl
 refine LP_op 7 (fun _ vv => str tg = vv) [(6, 29)] rfl rfl (by kernel_rfl) (fun _ _ _ _ p => p) ?_ ?_
 ·intro h12 hx15
  rintro _ rfl
  refine Needs_nil ?_
  refine Stp_yld (Y_ldblk Tryd.underlying9 rfl rfl (hk6.ext (hx7.trans hx15)) rfl) rfl ?_
  exact rfl
 refine LP_op 8 (fun _ vv => .pointer (some ⟨h.size, 0 + 5, none⟩) = vv) [] rfl rfl (by kernel_rfl) (fun _ _ _ _ p => p) ?_ ?_
 ·intro h13 hx16
  refine Needs_nil ?_
  refine Stp_yld (Y_fieldAddr (off := 5) (by kernel_rfl) rfl rfl) rfl ?_
  exact rfl
 refine LP_op 9 (fun _ vv => dv = vv) [(8, 31)] rfl rfl (by kernel_rfl) (fun _ _ _ _ p => p) ?_ ?_
 ·intro h14 hx17
  rintro _ rfl
  refine Needs_nil ?_
  refine Stp_yld (Y_ldblk Tryd.underlying28 rfl rfl (hk2.ext (((hn3.ext.then' hp5.only (by simp) (Nat.le_refl _)).trans hx7).trans hx17)) rfl) rfl ?_
  exact rfl
 refine LP_op 10 (fun hh r7_1 => OwnB hh h4.size r7_1 (dat)) [(9, 32)] rfl rfl (by kernel_rfl) (fun _ _ _ x_ p_ => p_.ext x_) ?_ ?_
 ·intro h15 hx18
  rintro _ rfl
  refine Needs_nil ?_
  refine Stp_call (E_call (by kernel_rfl) rfl) (slices_CloneB _ dv dat (hd.ext ((((hn1.ext.trans hn3.ext).then' hp5.only (by simp) hn1.ext.size).trans hx7).trans hx18)) (by first | omega | rfl | (simp <;> omega))) rfl ?_
  rintro s019 h16 ⟨_, rfl, hr020, hx21⟩
  exact ⟨hx21, (hr020.low hx18.size)⟩
 refine LP_op 11 (fun hh vv => ∃ r7_2, vv = .agg #[.int .i64 (k), str p, .int .i64 (m), str tg, r7_2, .int .i64 0] ∧ OwnB hh h4.size r7_2 (dat)) [(10, 33), (1, 24), (3, 26), (5, 28), (7, 30)] rfl rfl (by kernel_rfl) (fun _ _ _ x_ p_ => by obtain ⟨r7_2, rfl, q7_2⟩ := p_; exact ⟨_, rfl, q7_2.ext x_⟩) ?_ ?_
 ·intro h17 hx22
  intro r7_1 q7_1
  rintro _ rfl
  rintro _ rfl
  rintro _ rfl
  rintro _ rfl
  refine Needs_nil ?_
  refine Stp_yld (Y_build (v := .agg #[.int .i64 (k), str p, .int .i64 (m), str tg, r7_1, .int .i64 0]) (pv := [(0, .int .i64 (k)), (1, str p), (2, .int .i64 (m)), (3, str tg), (4, r7_1)]) (evp (is := [0, 1, 2, 3, 4]) (os := [.tmp 24, .tmp 26, .tmp 28, .tmp 30, .tmp 33]) (vs := [.int .i64 (k), str p, .int .i64 (m), str tg, r7_1]) rfl rfl) (fun _ => by obtain ⟨_, _, _, hf4_⟩ := slice_formO q7_1.bytes; rw [hf4_]; kernel_rfl)) rfl ?_
  exact ⟨r7_1, rfl, (q7_1.low (Nat.le_refl _))⟩
 refine LP_op 12 (fun hh vv => ∃ r7_3, vv = .pointer (some ⟨r7_3, 0, none⟩) ∧ Blk hh r7_3 [.int .i64 0, str [], .int .i64 0, str [], .slice none 0 0, .int .i64 0] ∧ h4.size ≤ r7_3) [] rfl rfl (by kernel_rfl) (fun _ _ _ x_ p_ => by obtain ⟨r7_3, rfl, q7_3, q7_3l⟩ := p_; exact ⟨_, rfl, q7_3.ext x_, q7_3l⟩) ?_ ?_
 ·intro h18 hx23
  refine Needs_nil ?_
  refine Stp_mks (M_alloc (u := .agg #[.int .i64 0, str [], .int .i64 0, str [], .slice none 0 0, .int .i64 0]) (by kernel_rfl)) rfl ?_
  rintro _ h19 ⟨rfl, hn24⟩
  have hk25 : Blk h19 h18.size [.int .i64 0, str [], .int .i64 0, str [], .slice none 0 0, .int .i64 0] := hn24.blk
  exact ⟨hn24.ext, ⟨h18.size, rfl, hk25, hx23.size⟩⟩
 refine LP_tail rfl 13 [(11, 34), (12, 7)] rfl rfl (by kernel_rfl) (by kernel_rfl) (by kernel_rfl) rfl ?_
 intro h20 hx26
 rintro _ ⟨r7_2, rfl, q7_2⟩
 rintro _ ⟨r7_3, rfl, q7_3, q7_3l⟩
 refine Needs_nil ?_
 refine L_dos (D_store (us := [.int .i64 (k), str p, .int .i64 (m), str tg, r7_2, .int .i64 0]) (show _ = some 6 by kernel_rfl) rfl rfl rfl (by intro u_ hu_; simp only [List.mem_cons, List.not_mem_nil, or_false] at hu_; rcases hu_ with rfl | rfl | rfl | rfl | rfl | rfl <;> first | rfl | exact (q7_2.bytes).cell1) q7_3 (by simp)) rfl rfl ?_
 rintro h21 hp27
 have hk28 : Blk h21 r7_3 [.int .i64 (k), str p, .int .i64 (m), str tg, r7_2, .int .i64 0] := hp27.blk
 refine Nx ?_
 refine W_sub _ (tk4 7 5 4 0) ?_
 refine W_seq (W_seq (W_region ?_))
 refine Ly (Y_fieldAddr (off := 0) (by kernel_rfl) rfl rfl) ?_
 have me3 := (hx7.trans hx26).then' hp27.only (by simp) (Nat.le_trans hx7.size q7_3l)
 refine Ly (Y_ldblk Tryd.underlying3 rfl rfl (hk6.ext me3) rfl) ?_
 refine Nx ?_
 refine W_sub _ (tk5 36 7 5 4 0) ?_
 refine W_block (W_seq (W_region ?_))
 refine Ly (Y_eql rfl rfl) ?_
 refine Av ?_
 refine Nx ?_
 refine W_sub _ (tk6 37 36 7 5 4 0) ?_
 refine W_splitd rfl (fun k0 => ?_) (fun k0 => ?_)
 ·refine W_pers [(7, .pointer (some ⟨r7_3, 0, none⟩)), (5, .pointer (some ⟨h1.size, 0, none⟩)), (4, .int .i64 0), (0, .pointer (some ⟨b, 0, none⟩))] (tk4 7 5 4 0) (by kernel_rfl) ?_
  refine LP_op 0 (fun _ vv => .pointer (some ⟨b, 0, none⟩) = vv) [] rfl rfl (by kernel_rfl) (fun _ _ _ _ p => p) ?_ ?_
  ·intro h22 hx29
   refine Needs_nil ?_
   refine Stp_yld (Y_move rfl) rfl ?_
   exact rfl
  refine LP_op 1 (fun _ vv => .pointer (some ⟨b, 0, none⟩) = vv) [(0, 39)] rfl rfl (by kernel_rfl) (fun _ _ _ _ p => p) ?_ ?_
  ·intro h23 hx30
   rintro _ rfl
   refine Needs_nil ?_
   refine Stp_yld (Y_nilCheck rfl) rfl ?_
   exact rfl
  refine LP_op 2 (fun _ vv => .pointer (some ⟨b, 0 + 1, none⟩) = vv) [(1, 40)] rfl rfl (by kernel_rfl) (fun _ _ _ _ p => p) ?_ ?_
  ·intro h24 hx31
   rintro _ rfl
   refine Needs_nil ?_
   refine Stp_yld (Y_fieldAddr (off := 1) (by kernel_rfl) rfl rfl) rfl ?_
   exact rfl
  refine LP_op 3 (fun _ vv => .map (some m1) = vv) [(2, 41)] rfl rfl (by kernel_rfl) (fun _ _ _ _ p => p) ?_ ?_
  ·intro h25 hx32
   rintro _ rfl
   refine Needs_nil ?_
   refine Stp_yld (Y_ldblk Tryd.underlying60 rfl rfl (hb.ext ((((((hn1.ext.trans hn3.ext).then' hp5.only (by simp) hn1.ext.size).trans hx7).trans hx26).then' hp27.only (by simp) (Nat.le_trans (Nat.le_trans (Nat.le_trans (Nat.le_trans hn1.ext.size hn3.ext.size) hp5.only.size) hx7.size) q7_3l)).trans hx32)) rfl) rfl ?_
   exact rfl
  refine LP_op 4 (fun _ vv => .pointer (some ⟨h1.size, 0 + 1, none⟩) = vv) [] rfl rfl (by kernel_rfl) (fun _ _ _ _ p => p) ?_ ?_
  ·intro h26 hx33
   refine Needs_nil ?_
   refine Stp_yld (Y_fieldAddr (off := 1) (by kernel_rfl) rfl rfl) rfl ?_
   exact rfl
  refine LP_op 5 (fun _ vv => str p = vv) [(4, 43)] rfl rfl (by kernel_rfl) (fun _ _ _ _ p => p) ?_ ?_
  ·intro h27 hx34
   rintro _ rfl
   refine Needs_nil ?_
   refine Stp_yld (Y_ldblk Tryd.underlying9 rfl rfl (hk6.ext (((hx7.trans hx26).then' hp27.only (by simp) (Nat.le_trans hx7.size q7_3l)).trans hx34)) rfl) rfl ?_
   exact rfl
  refine LP_tail rfl 6 [(3, 42), (5, 44)] rfl rfl (by kernel_rfl) (by kernel_rfl) (by kernel_rfl) rfl ?_
  intro h28 hx35
  rintro _ rfl
  rintro _ rfl
  refine Needs_nil ?_
  have me4 := Nat.le_trans (Nat.le_trans hn1.ext.size hn3.ext.size) hp5.only.size
  have me5 := ((me1.trans hx7).trans hx26).then' hp27.only (by simp) (Nat.le_trans (Nat.le_trans me4 hx7.size) q7_3l)
  refine L_dos (D_updset Tryd.underlying60 Tryd.underlying9 rfl rfl rfl (hD.ext (me5.trans hx35))) rfl rfl ?_
  rintro h29 ⟨hx36, -, hb37⟩
  refine L_nil (X_block (X_then ?_))
  refine W_sub _ (tk3 7 4 0) ?_
  refine W_seq ?_
  have hc38 := ((hk28.ext hx35).only hx36 (ni_gt (Nat.lt_of_lt_of_le hD.lt (Nat.le_trans (Nat.le_trans me4 hx7.size) q7_3l))))
  refine W_held (fun h' => Blk h' r7_3 [.int .i64 (k), str p, .int .i64 (m), str tg, r7_2, .int .i64 0]) 11 rfl (by kernel_rfl) ?_
  refine LH_take (i := 0) rfl (fun h_ hI_ => Y_move rfl) rfl rfl rfl (by kernel_rfl) (by kernel_rfl) (by kernel_rfl) (fun _ _ _ => by rintro ⟨_, _, h_, _⟩; cases h_) hc38 ?_
  refine LH_take (i := 1) rfl (fun h_ hI_ => Y_move rfl) rfl rfl rfl (by kernel_rfl) (by kernel_rfl) (by kernel_rfl) (fun _ _ _ => by rintro ⟨_, _, h_, _⟩; cases h_) hc38 ?_
  refine LH_take (i := 2) rfl (fun h_ hI_ => Y_nilCheck rfl) rfl rfl rfl (by kernel_rfl) (by kernel_rfl) (by kernel_rfl) (fun _ _ _ => by rintro ⟨_, _, h_, _⟩; cases h_) hc38 ?_
  refine LH_take (i := 3) rfl (fun h_ hI_ => Y_fieldAddr (off := 0) (by kernel_rfl) rfl rfl) rfl rfl rfl (by kernel_rfl) (by kernel_rfl) (by kernel_rfl) (fun _ _ _ => by rintro ⟨_, _, h_, _⟩; cases h_) hc38 ?_
  refine LH_take (i := 5) rfl (fun h_ hI_ => Y_ldbox (us := [.int .i64 (k), str p, .int .i64 (m), str tg, r7_2, .int .i64 0]) Tryd.underlying48 rfl (show _ = some 6 by kernel_rfl) rfl hI_ rfl) rfl rfl rfl (by kernel_rfl) (by kernel_rfl) (by kernel_rfl) (fun _ _ _ => by rintro ⟨_, _, h_, _⟩; cases h_) hc38 ?_
  refine LH_two (i := 4) (j := 6) (by kernel_rfl) ?_ ?_
  ·have hc39 := ((((((((hb.ext hn1.ext).ext hn3.ext).only hp5.only (ni_lt (Nat.lt_of_lt_of_le hb.lt hn1.ext.size))).ext hx7).ext hx26).only hp27.only (ni_lt (Nat.lt_of_lt_of_le hb.lt (Nat.le_trans (Nat.le_trans me4 hx7.size) q7_3l)))).ext hx35).only hx36 (fun hb_ => hne.1 (List.mem_singleton.1 hb_)))
   refine LO_yld (i := 4) rfl (Y_ldblk Tryd.underlying32 rfl rfl hc39 rfl) rfl rfl rfl hc38 ?_
   refine LH_one (i := 6) (by kernel_rfl) ?_
   refine LO_mks (i := 6) rfl (M_litr (S := nodS) (l := ([⟨k, p, m, tg, r7_2, dat, (0 : Int)⟩] : List Nod)) (cells := [.int .i64 (k), str p, .int .i64 (m), str tg, r7_2, .int .i64 0]) (pv := [(0, .agg #[.int .i64 (k), str p, .int .i64 (m), str tg, r7_2, .int .i64 0])]) (E := 48) (evp (is := [0]) (os := [.tmp 93]) (vs := [.agg #[.int .i64 (k), str p, .int .i64 (m), str tg, r7_2, .int .i64 0]]) rfl rfl) rfl rfl (fun _ => by kernel_rfl) (by simp only [List.mem_cons, List.not_mem_nil, or_false, forall_eq_or_imp, forall_eq]; exact ((((Off.of q7_2).box q7_3 rfl hp27.only).ext hx35).map (hD.ext (me5.trans hx35)) hx36).1)) rfl rfl rfl ?_
   rintro v40 h30 ⟨ho41, hx42⟩
   refine ⟨(hc38.ext hx42), ?_⟩
   refine LH_one (i := 7) (by kernel_rfl) ?_
   have of9 := (fun d_ hd_ => Nat.le_trans (Nat.le_trans (Nat.le_trans (Nat.le_trans hn1.ext.size hn3.ext.size) hp5.only.size) hx7.size) (Own.lt q7_2 d_ (blk2_ofO hd_)).1)
   have ob1 : ∀ x ∈ L, Off h30 x.dv x.data := fun x q => (hof x q).map hD (Only.trans (Only.trans (Only.trans (Only.trans (Only.trans (Only.trans (Only.trans (Only.trans (Only.trans (Only.refl _ _) hn1.ext (fun _ hb_ => by cases hb_)) hn3.ext (fun _ hb_ => by cases hb_)) hp5.only (fun b_ hb_ => .inr (by rw [List.mem_singleton.1 hb_]; exact hn1.ext.size))) hx7 (fun _ hb_ => by cases hb_)) hx26 (fun _ hb_ => by cases hb_)) hp27.only (fun b_ hb_ => .inr (by rw [List.mem_singleton.1 hb_]; exact (Nat.le_trans (Nat.le_trans (Nat.le_trans (Nat.le_trans hn1.ext.size hn3.ext.size) hp5.only.size) hx7.size) q7_3l)))) hx35 (fun _ hb_ => by cases hb_)) hx36 (fun _ hb_ => .inl hb_)) hx42 (fun _ hb_ => by cases hb_))
   have ob2 := (((((Off.of q7_2).box q7_3 rfl hp27.only).ext hx35).map (hD.ext (me5.trans hx35)) hx36).ext hx42)
   have ob3 := (rowsO_map ho (Only.trans (Only.trans (Only.trans (Only.trans (Only.trans (Only.trans (Only.trans (Only.trans (Only.trans (Only.refl _ _) hn1.ext (fun _ hb_ => by cases hb_)) hn3.ext (fun _ hb_ => by cases hb_)) hp5.only (fun b_ hb_ => .inr (by rw [List.mem_singleton.1 hb_]; exact hn1.ext.size))) hx7 (fun _ hb_ => by cases hb_)) hx26 (fun _ hb_ => by cases hb_)) hp27.only (fun b_ hb_ => .inr (by rw [List.mem_singleton.1 hb_]; exact (Nat.le_trans (Nat.le_trans (Nat.le_trans (Nat.le_trans hn1.ext.size hn3.ext.size) hp5.only.size) hx7.size) q7_3l)))) hx35 (fun _ hb_ => by cases hb_)) hx36 (fun _ hb_ => .inl hb_)) hx42 (fun _ hb_ => by cases hb_)) hD)
   refine LO_mks (i := 7) rfl (M_apprG (z := 6) (bytes := 80) (z0 := (.agg #[.int .i64 0, str [], .int .i64 0, str [], .slice none 0 0, .int .i64 0])) Tryd.underlying32 (by unfold elemRow; kernel_rfl) rfl rfl (by decide) rfl rfl (rowsO_map ho (Only.trans (Only.trans (Only.trans (Only.trans (Only.trans (Only.trans (Only.trans (Only.trans (Only.trans (Only.refl _ _) hn1.ext (fun _ hb_ => by cases hb_)) hn3.ext (fun _ hb_ => by cases hb_)) hp5.only (fun b_ hb_ => .inr (by rw [List.mem_singleton.1 hb_]; exact hn1.ext.size))) hx7 (fun _ hb_ => by cases hb_)) hx26 (fun _ hb_ => by cases hb_)) hp27.only (fun b_ hb_ => .inr (by rw [List.mem_singleton.1 hb_]; exact (Nat.le_trans (Nat.le_trans (Nat.le_trans (Nat.le_trans hn1.ext.size hn3.ext.size) hp5.only.size) hx7.size) q7_3l)))) hx35 (fun _ hb_ => by cases hb_)) hx36 (fun _ hb_ => .inl hb_)) hx42 (fun _ hb_ => by cases hb_)) hD) ho41.rows (Nat.le_trans (Nat.le_trans (Nat.le_trans (Nat.le_trans (Nat.le_trans (Nat.le_trans (Nat.le_trans (Nat.le_trans (Nat.le_trans hl.size hn1.ext.size) hn3.ext.size) hp5.only.size) hx7.size) hx26.size) hp27.only.size) hx35.size) hx36.size) hx42.size) (by first | (simp; omega) | (simp; done)) (fun h9 y9 hge x9 hx9 => (List.mem_append.1 hx9).elim (fun q => ((ob1 x9 q).row ob3 hnil y9).1) (fun q => by rw [List.mem_singleton.1 q]; exact (Off.row ob2 ob3 hnil y9).1))) rfl rfl rfl ?_
   rintro v43 h31 ⟨ha44, ha44l⟩
   have hc45 := ((hc38.ext hx42).only ha44.only (fun hb_ => Nat.lt_irrefl _ (Nat.lt_of_lt_of_le (Own.lt ho.1 _ (by simpa using hb_)).2 (Nat.le_trans (Nat.le_trans (Nat.le_trans (Nat.le_trans hn1.ext.size hn3.ext.size) hp5.only.size) hx7.size) q7_3l))))
   refine ⟨hc45, ?_⟩
   refine LH_take (i := 8) rfl (fun h_ hI_ => Y_nilCheck rfl) rfl rfl rfl (by kernel_rfl) (by kernel_rfl) (by kernel_rfl) (fun _ _ _ => by rintro ⟨_, _, h_, _⟩; cases h_) hc45 ?_
   refine LH_take (i := 9) rfl (fun h_ hI_ => Y_fieldAddr (off := 0) (by kernel_rfl) rfl rfl) rfl rfl rfl (by kernel_rfl) (by kernel_rfl) (by kernel_rfl) (fun _ _ _ => by rintro ⟨_, _, h_, _⟩; cases h_) hc45 ?_
   refine LH_one (i := 10) (by kernel_rfl) ?_
   have hc46 := ((hc39.ext hx42).only ha44.only (box_row ho hnil hb))
   refine LO_dos (i := 10) rfl (D_store (us := [v43]) (show _ = some 1 by kernel_rfl) rfl rfl (row_cells ha44.own.rows) (by intro u_ hu_; simp only [List.mem_cons, List.not_mem_nil, or_false] at hu_; rcases hu_ with rfl <;> first | rfl | exact row_cell1 ha44.own.rows) hc46 (by simp)) rfl rfl ?_
   rintro h32 hp47
   have hc49 := (hc45.only hp47.only (ni_gt (Nat.lt_of_lt_of_le hb.lt (Nat.le_trans (Nat.le_trans (Nat.le_trans (Nat.le_trans hn1.ext.size hn3.ext.size) hp5.only.size) hx7.size) q7_3l))))
   refine ⟨hc49, ?_⟩
   have hk48 : Blk h32 b [v43, .map (some m1), .map (some m2)] := hp47.blk
   refine LH_done (by kernel_rfl) ?_
   refine X_then ?_
   refine W_sub _ (tk1 4) ?_
   refine Wr ?_
   refine Av ?_
   refine L_nil (X_then (W_ret ?_))
   refine X_ret1 rfl rfl ?_
   have ob5 : aerr L D F k p m tg z dat = 0 := by unfold aerr; rw [if_neg e, if_neg sz]
   have hc50 := (((hb37.ext hx42).only ha44.only (map_row ho hD)).only hp47.only (fun hb_ => hne.1 (List.mem_singleton.1 hb_).symm))
   have hc51 := (((((((((((hF.ext hn1.ext).ext hn3.ext).only hp5.only (ni_lt (Nat.lt_of_lt_of_le hF.lt hn1.ext.size))).ext hx7).ext hx26).only hp27.only (ni_lt (Nat.lt_of_lt_of_le hF.lt (Nat.le_trans (Nat.le_trans me4 hx7.size) q7_3l)))).ext hx35).only hx36 (fun hb_ => hne.2.2 (List.mem_singleton.1 hb_).symm)).ext hx42).only ha44.only (map_row ho hF)).only hp47.only (fun hb_ => hne.2.1 (List.mem_singleton.1 hb_).symm))
   exact ⟨by rw [ob5], .inr ⟨ob5, (Only.trans (Only.trans (Only.trans (Only.trans (Only.trans (Only.trans (Only.trans (Only.trans (Only.trans (Only.trans (Only.trans (Only.refl _ _) hn1.ext (fun _ hb_ => by cases hb_)) hn3.ext (fun _ hb_ => by cases hb_)) hp5.only (fun b_ hb_ => .inr (by rw [List.mem_singleton.1 hb_]; exact hn1.ext.size))) hx7 (fun _ hb_ => by cases hb_)) hx26 (fun _ hb_ => by cases hb_)) hp27.only (fun b_ hb_ => .inr (by rw [List.mem_singleton.1 hb_]; exact (Nat.le_trans (Nat.le_trans me4 hx7.size) q7_3l)))) hx35 (fun _ hb_ => by cases hb_)) hx36 (fun b_ hb_ => .inl (by rw [List.mem_singleton.1 hb_]; simp))) hx42 (fun _ hb_ => by cases hb_)) ha44.only (fun b_ hb_ => .inl (List.mem_append_right _ hb_))) hp47.only (fun b_ hb_ => .inl (by rw [List.mem_singleton.1 hb_]; simp))), bst_of (.inr of9) (bst_new ha44.own ob1 ob2 ob3 hnil ha44.only hc46 (row_noint ho) hp47.only hk48 (SetK.congr hc50 (by unfold adir; rw [if_pos k0])) (MapA.congr hc51 (by unfold afil; rw [if_neg (by omega)]))) (by unfold anod; rw [if_neg (by omega), if_neg (by omega)])⟩⟩
  refine LO_mks (i := 6) rfl (M_litr (S := nodS) (l := ([⟨k, p, m, tg, r7_2, dat, (0 : Int)⟩] : List Nod)) (cells := [.int .i64 (k), str p, .int .i64 (m), str tg, r7_2, .int .i64 0]) (pv := [(0, .agg #[.int .i64 (k), str p, .int .i64 (m), str tg, r7_2, .int .i64 0])]) (E := 48) (evp (is := [0]) (os := [.tmp 93]) (vs := [.agg #[.int .i64 (k), str p, .int .i64 (m), str tg, r7_2, .int .i64 0]]) rfl rfl) rfl rfl (fun _ => by kernel_rfl) (by simp only [List.mem_cons, List.not_mem_nil, or_false, forall_eq_or_imp, forall_eq]; exact ((((Off.of q7_2).box q7_3 rfl hp27.only).ext hx35).map (hD.ext (me5.trans hx35)) hx36).1)) rfl rfl rfl ?_
  rintro v52 h33 ⟨ho53, hx54⟩
  refine ⟨(hc38.ext hx54), ?_⟩
  refine LH_one (i := 4) (by kernel_rfl) ?_
  have hc55 := (((((((((hb.ext hn1.ext).ext hn3.ext).only hp5.only (ni_lt (Nat.lt_of_lt_of_le hb.lt hn1.ext.size))).ext hx7).ext hx26).only hp27.only (ni_lt (Nat.lt_of_lt_of_le hb.lt (Nat.le_trans (Nat.le_trans me4 hx7.size) q7_3l)))).ext hx35).only hx36 (fun hb_ => hne.1 (List.mem_singleton.1 hb_))).ext hx54)
  refine LO_yld (i := 4) rfl (Y_ldblk Tryd.underlying32 rfl rfl hc55 rfl) rfl rfl rfl (hc38.ext hx54) ?_
  refine LH_one (i := 7) (by kernel_rfl) ?_
  have of9 := (fun d_ hd_ => Nat.le_trans (Nat.le_trans (Nat.le_trans (Nat.le_trans hn1.ext.size hn3.ext.size) hp5.only.size) hx7.size) (Own.lt q7_2 d_ (blk2_ofO hd_)).1)
  have ob1 : ∀ x ∈ L, Off h33 x.dv x.data := fun x q => (hof x q).map hD (Only.trans (Only.trans (Only.trans (Only.trans (Only.trans (Only.trans (Only.trans (Only.trans (Only.trans (Only.refl _ _) hn1.ext (fun _ hb_ => by cases hb_)) hn3.ext (fun _ hb_ => by cases hb_)) hp5.only (fun b_ hb_ => .inr (by rw [List.mem_singleton.1 hb_]; exact hn1.ext.size))) hx7 (fun _ hb_ => by cases hb_)) hx26 (fun _ hb_ => by cases hb_)) hp27.only (fun b_ hb_ => .inr (by rw [List.mem_singleton.1 hb_]; exact (Nat.le_trans (Nat.le_trans (Nat.le_trans (Nat.le_trans hn1.ext.size hn3.ext.size) hp5.only.size) hx7.size) q7_3l)))) hx35 (fun _ hb_ => by cases hb_)) hx36 (fun _ hb_ => .inl hb_)) hx54 (fun _ hb_ => by cases hb_))
  have ob2 := (((((Off.of q7_2).box q7_3 rfl hp27.only).ext hx35).map (hD.ext (me5.trans hx35)) hx36).ext hx54)
  have ob3 := (rowsO_map ho (Only.trans (Only.trans (Only.trans (Only.trans (Only.trans (Only.trans (Only.trans (Only.trans (Only.trans (Only.refl _ _) hn1.ext (fun _ hb_ => by cases hb_)) hn3.ext (fun _ hb_ => by cases hb_)) hp5.only (fun b_ hb_ => .inr (by rw [List.mem_singleton.1 hb_]; exact hn1.ext.size))) hx7 (fun _ hb_ => by cases hb_)) hx26 (fun _ hb_ => by cases hb_)) hp27.only (fun b_ hb_ => .inr (by rw [List.mem_singleton.1 hb_]; exact (Nat.le_trans (Nat.le_trans (Nat.le_trans (Nat.le_trans hn1.ext.size hn3.ext.size) hp5.only.size) hx7.size) q7_3l)))) hx35 (fun _ hb_ => by cases hb_)) hx36 (fun _ hb_ => .inl hb_)) hx54 (fun _ hb_ => by cases hb_)) hD)
  refine LO_mks (i := 7) rfl (M_apprG (z := 6) (bytes := 80) (z0 := (.agg #[.int .i64 0, str [], .int .i64 0, str [], .slice none 0 0, .int .i64 0])) Tryd.underlying32 (by unfold elemRow; kernel_rfl) rfl rfl (by decide) rfl rfl (rowsO_map ho (Only.trans (Only.trans (Only.trans (Only.trans (Only.trans (Only.trans (Only.trans (Only.trans (Only.trans (Only.refl _ _) hn1.ext (fun _ hb_ => by cases hb_)) hn3.ext (fun _ hb_ => by cases hb_)) hp5.only (fun b_ hb_ => .inr (by rw [List.mem_singleton.1 hb_]; exact hn1.ext.size))) hx7 (fun _ hb_ => by cases hb_)) hx26 (fun _ hb_ => by cases hb_)) hp27.only (fun b_ hb_ => .inr (by rw [List.mem_singleton.1 hb_]; exact (Nat.le_trans (Nat.le_trans (Nat.le_trans (Nat.le_trans hn1.ext.size hn3.ext.size) hp5.only.size) hx7.size) q7_3l)))) hx35 (fun _ hb_ => by cases hb_)) hx36 (fun _ hb_ => .inl hb_)) hx54 (fun _ hb_ => by cases hb_)) hD) ho53.rows (Nat.le_trans (Nat.le_trans (Nat.le_trans (Nat.le_trans (Nat.le_trans (Nat.le_trans (Nat.le_trans (Nat.le_trans (Nat.le_trans hl.size hn1.ext.size) hn3.ext.size) hp5.only.size) hx7.size) hx26.size) hp27.only.size) hx35.size) hx36.size) hx54.size) (by first | (simp; omega) | (simp; done)) (fun h9 y9 hge x9 hx9 => (List.mem_append.1 hx9).elim (fun q => ((ob1 x9 q).row ob3 hnil y9).1) (fun q => by rw [List.mem_singleton.1 q]; exact (Off.row ob2 ob3 hnil y9).1))) rfl rfl rfl ?_
  rintro v56 h34 ⟨ha57, ha57l⟩
  have hc58 := ((hc38.ext hx54).only ha57.only (fun hb_ => Nat.lt_irrefl _ (Nat.lt_of_lt_of_le (Own.lt ho.1 _ (by simpa using hb_)).2 (Nat.le_trans (Nat.le_trans (Nat.le_trans (Nat.le_trans hn1.ext.size hn3.ext.size) hp5.only.size) hx7.size) q7_3l))))
  refine ⟨hc58, ?_⟩
  refine LH_take (i := 8) rfl (fun h_ hI_ => Y_nilCheck rfl) rfl rfl rfl (by kernel_rfl) (by kernel_rfl) (by kernel_rfl) (fun _ _ _ => by rintro ⟨_, _, h_, _⟩; cases h_) hc58 ?_
  refine LH_take (i := 9) rfl (fun h_ hI_ => Y_fieldAddr (off := 0) (by kernel_rfl) rfl rfl) rfl rfl rfl (by kernel_rfl) (by kernel_rfl) (by kernel_rfl) (fun _ _ _ => by rintro ⟨_, _, h_, _⟩; cases h_) hc58 ?_
  refine LH_one (i := 10) (by kernel_rfl) ?_
  have hc59 := (hc55.only ha57.only (box_row ho hnil hb))
  refine LO_dos (i := 10) rfl (D_store (us := [v56]) (show _ = some 1 by kernel_rfl) rfl rfl (row_cells ha57.own.rows) (by intro u_ hu_; simp only [List.mem_cons, List.not_mem_nil, or_false] at hu_; rcases hu_ with rfl <;> first | rfl | exact row_cell1 ha57.own.rows) hc59 (by simp)) rfl rfl ?_
  rintro h35 hp60
  have hc62 := (hc58.only hp60.only (ni_gt (Nat.lt_of_lt_of_le hb.lt (Nat.le_trans (Nat.le_trans (Nat.le_trans (Nat.le_trans hn1.ext.size hn3.ext.size) hp5.only.size) hx7.size) q7_3l))))
  refine ⟨hc62, ?_⟩
  have hk61 : Blk h35 b [v56, .map (some m1), .map (some m2)] := hp60.blk
  refine LH_done (by kernel_rfl) ?_
  refine X_then ?_
  refine W_sub _ (tk1 4) ?_
  refine Wr ?_
  refine Av ?_
  refine L_nil (X_then (W_ret ?_))
  refine X_ret1 rfl rfl ?_
  have ob5 : aerr L D F k p m tg z dat = 0 := by unfold aerr; rw [if_neg e, if_neg sz]
  have hc63 := (((hb37.ext hx54).only ha57.only (map_row ho hD)).only hp60.only (fun hb_ => hne.1 (List.mem_singleton.1 hb_).symm))
  have hc64 := (((((((((((hF.ext hn1.ext).ext hn3.ext).only hp5.only (ni_lt (Nat.lt_of_lt_of_le hF.lt hn1.ext.size))).ext hx7).ext hx26).only hp27.only (ni_lt (Nat.lt_of_lt_of_le hF.lt (Nat.le_trans (Nat.le_trans me4 hx7.size) q7_3l)))).ext hx35).only hx36 (fun hb_ => hne.2.2 (List.mem_singleton.1 hb_).symm)).ext hx54).only ha57.only (map_row ho hF)).only hp60.only (fun hb_ => hne.2.1 (List.mem_singleton.1 hb_).symm))
  exact ⟨by rw [ob5], .inr ⟨ob5, (Only.trans (Only.trans (Only.trans (Only.trans (Only.trans (Only.trans (Only.trans (Only.trans (Only.trans (Only.trans (Only.trans (Only.refl _ _) hn1.ext (fun _ hb_ => by cases hb_)) hn3.ext (fun _ hb_ => by cases hb_)) hp5.only (fun b_ hb_ => .inr (by rw [List.mem_singleton.1 hb_]; exact hn1.ext.size))) hx7 (fun _ hb_ => by cases hb_)) hx26 (fun _ hb_ => by cases hb_)) hp27.only (fun b_ hb_ => .inr (by rw [List.mem_singleton.1 hb_]; exact (Nat.le_trans (Nat.le_trans me4 hx7.size) q7_3l)))) hx35 (fun _ hb_ => by cases hb_)) hx36 (fun b_ hb_ => .inl (by rw [List.mem_singleton.1 hb_]; simp))) hx54 (fun _ hb_ => by cases hb_)) ha57.only (fun b_ hb_ => .inl (List.mem_append_right _ hb_))) hp60.only (fun b_ hb_ => .inl (by rw [List.mem_singleton.1 hb_]; simp))), bst_of (.inr of9) (bst_new ha57.own ob1 ob2 ob3 hnil ha57.only hc59 (row_noint ho) hp60.only hk61 (SetK.congr hc63 (by unfold adir; rw [if_pos k0])) (MapA.congr hc64 (by unfold afil; rw [if_neg (by omega)]))) (by unfold anod; rw [if_neg (by omega), if_neg (by omega)])⟩⟩
 refine Wr ?_
 refine Ly (Y_eql rfl rfl) ?_
 refine Av ?_
 refine Nx ?_
 refine W_sub _ (tk6 45 36 7 5 4 0) ?_
 refine W_splitd rfl (fun k1 => ?_) (fun k1 => ?_)
 ·refine W_seq ?_
  refine W_pers [(7, .pointer (some ⟨r7_3, 0, none⟩)), (5, .pointer (some ⟨h1.size, 0, none⟩)), (4, .int .i64 0), (0, .pointer (some ⟨b, 0, none⟩))] (tk4 7 5 4 0) (by kernel_rfl) ?_
  refine LP_op 0 (fun _ vv => .pointer (some ⟨b, 0, none⟩) = vv) [] rfl rfl (by kernel_rfl) (fun _ _ _ _ p => p) ?_ ?_
  ·intro h36 hx65
   refine Needs_nil ?_
   refine Stp_yld (Y_move rfl) rfl ?_
   exact rfl
  refine LP_op 1 (fun _ vv => .pointer (some ⟨b, 0, none⟩) = vv) [(0, 47)] rfl rfl (by kernel_rfl) (fun _ _ _ _ p => p) ?_ ?_
  ·intro h37 hx66
   rintro _ rfl
   refine Needs_nil ?_
   refine Stp_yld (Y_nilCheck rfl) rfl ?_
   exact rfl
  refine LP_op 2 (fun _ vv => .pointer (some ⟨b, 0 + 2, none⟩) = vv) [(1, 48)] rfl rfl (by kernel_rfl) (fun _ _ _ _ p => p) ?_ ?_
  ·intro h38 hx67
   rintro _ rfl
   refine Needs_nil ?_
   refine Stp_yld (Y_fieldAddr (off := 2) (by kernel_rfl) rfl rfl) rfl ?_
   exact rfl
  refine LP_op 3 (fun _ vv => .map (some m2) = vv) [(2, 49)] rfl rfl (by kernel_rfl) (fun _ _ _ _ p => p) ?_ ?_
  ·intro h39 hx68
   rintro _ rfl
   refine Needs_nil ?_
   refine Stp_yld (Y_ldblk Tryd.underlying61 rfl rfl (hb.ext ((((((hn1.ext.trans hn3.ext).then' hp5.only (by simp) hn1.ext.size).trans hx7).trans hx26).then' hp27.only (by simp) (Nat.le_trans (Nat.le_trans (Nat.le_trans (Nat.le_trans hn1.ext.size hn3.ext.size) hp5.only.size) hx7.size) q7_3l)).trans hx68)) rfl) rfl ?_
   exact rfl
  refine LP_op 4 (fun _ vv => .pointer (some ⟨h1.size, 0 + 1, none⟩) = vv) [] rfl rfl (by kernel_rfl) (fun _ _ _ _ p => p) ?_ ?_
  ·intro h40 hx69
   refine Needs_nil ?_
   refine Stp_yld (Y_fieldAddr (off := 1) (by kernel_rfl) rfl rfl) rfl ?_
   exact rfl
  refine LP_op 5 (fun _ vv => str p = vv) [(4, 51)] rfl rfl (by kernel_rfl) (fun _ _ _ _ p => p) ?_ ?_
  ·intro h41 hx70
   rintro _ rfl
   refine Needs_nil ?_
   refine Stp_yld (Y_ldblk Tryd.underlying9 rfl rfl (hk6.ext (((hx7.trans hx26).then' hp27.only (by simp) (Nat.le_trans hx7.size q7_3l)).trans hx70)) rfl) rfl ?_
   exact rfl
  refine LP_op 6 (fun _ vv => .pointer (some ⟨b, 0, none⟩) = vv) [] rfl rfl (by kernel_rfl) (fun _ _ _ _ p => p) ?_ ?_
  ·intro h42 hx71
   refine Needs_nil ?_
   refine Stp_yld (Y_move rfl) rfl ?_
   exact rfl
  refine LP_op 7 (fun _ vv => .pointer (some ⟨b, 0, none⟩) = vv) [(6, 53)] rfl rfl (by kernel_rfl) (fun _ _ _ _ p => p) ?_ ?_
  ·intro h43 hx72
   rintro _ rfl
   refine Needs_nil ?_
   refine Stp_yld (Y_nilCheck rfl) rfl ?_
   exact rfl
  refine LP_op 8 (fun _ vv => .pointer (some ⟨b, 0 + 0, none⟩) = vv) [(7, 54)] rfl rfl (by kernel_rfl) (fun _ _ _ _ p => p) ?_ ?_
  ·intro h44 hx73
   rintro _ rfl
   refine Needs_nil ?_
   refine Stp_yld (Y_fieldAddr (off := 0) (by kernel_rfl) rfl rfl) rfl ?_
   exact rfl
  refine LP_op 9 (fun _ vv => w = vv) [(8, 55)] rfl rfl (by kernel_rfl) (fun _ _ _ _ p => p) ?_ ?_
  ·intro h45 hx74
   rintro _ rfl
   refine Needs_nil ?_
   refine Stp_yld (Y_ldblk Tryd.underlying32 rfl rfl (hb.ext ((((((hn1.ext.trans hn3.ext).then' hp5.only (by simp) hn1.ext.size).trans hx7).trans hx26).then' hp27.only (by simp) (Nat.le_trans (Nat.le_trans (Nat.le_trans (Nat.le_trans hn1.ext.size hn3.ext.size) hp5.only.size) hx7.size) q7_3l)).trans hx74)) rfl) rfl ?_
   exact rfl
  refine LP_op 10 (fun _ vv => .int .i64 ((L.length : Int)) = vv) [(9, 56)] rfl rfl (by kernel_rfl) (fun _ _ _ _ p => p) ?_ ?_
  ·intro h46 hx75
   rintro _ rfl
   refine Needs_nil ?_
   refine Stp_yld (Y_lenr Tryd.underlying32 rfl (ho.rows.ext ((((((hn1.ext.trans hn3.ext).then' hp5.only (by simp) hn1.ext.size).trans hx7).trans hx26).then' hp27.only (by simp) (Nat.le_trans (Nat.le_trans (Nat.le_trans (Nat.le_trans hn1.ext.size hn3.ext.size) hp5.only.size) hx7.size) q7_3l)).trans hx75))) rfl ?_
   exact rfl
  refine LP_tail rfl 11 [(3, 50), (5, 52), (10, 57)] rfl rfl (by kernel_rfl) (by kernel_rfl) (by kernel_rfl) rfl ?_
  intro h47 hx76
  rintro _ rfl
  rintro _ rfl
  rintro _ rfl
  refine Needs_nil ?_
  have me6 := Nat.le_trans (Nat.le_trans hn1.ext.size hn3.ext.size) hp5.only.size
  have me7 := ((me1.trans hx7).trans hx26).then' hp27.only (by simp) (Nat.le_trans (Nat.le_trans me6 hx7.size) q7_3l)
  refine L_dos (D_updA (evl := (fun z : Int => .int .i64 z)) (k := p) (v := (L.length : Int)) keyS Tryd.underlying61 Tryd.underlying9 rfl rfl rfl (hF.ext (me7.trans hx76))) rfl rfl ?_
  rintro h48 ⟨hx77, -, hb78⟩
  refine Nx ?_
  refine W_sub _ (tk3 7 4 0) ?_
  refine W_region ?_
  refine Mv ?_
  refine Ly (Y_nilCheck rfl) ?_
  refine Ly (Y_fieldAddr (off := 0) (by kernel_rfl) rfl rfl) ?_
  have hc79 := ((((((((hb.ext hn1.ext).ext hn3.ext).only hp5.only (ni_lt (Nat.lt_of_lt_of_le hb.lt hn1.ext.size))).ext hx7).ext hx26).only hp27.only (ni_lt (Nat.lt_of_lt_of_le hb.lt (Nat.le_trans (Nat.le_trans me6 hx7.size) q7_3l)))).ext hx76).only hx77 (fun hb_ => hne.2.1 (List.mem_singleton.1 hb_)))
  refine Ly (Y_ldblk Tryd.underlying32 rfl rfl hc79 rfl) ?_
  refine Ly (Y_lenr Tryd.underlying32 rfl (rowsO_map ho (Only.trans (Only.trans (Only.trans (Only.trans (Only.trans (Only.trans (Only.trans (Only.trans (Only.refl _ _) hn1.ext (fun _ hb_ => by cases hb_)) hn3.ext (fun _ hb_ => by cases hb_)) hp5.only (fun b_ hb_ => .inr (by rw [List.mem_singleton.1 hb_]; exact hn1.ext.size))) hx7 (fun _ hb_ => by cases hb_)) hx26 (fun _ hb_ => by cases hb_)) hp27.only (fun b_ hb_ => .inr (by rw [List.mem_singleton.1 hb_]; exact (Nat.le_trans (Nat.le_trans me6 hx7.size) q7_3l)))) hx76 (fun _ hb_ => by cases hb_)) hx77 (fun _ hb_ => .inl hb_)) hF).rows) ?_
  refine Ly (Y_add rfl rfl (by omega) (by omega)) ?_
  refine Ly (Y_fieldAddr (off := 5) (by kernel_rfl) rfl rfl) ?_
  have hc80 := ((hk28.ext hx76).only hx77 (ni_gt (Nat.lt_of_lt_of_le hF.lt (Nat.le_trans (Nat.le_trans me6 hx7.size) q7_3l))))
  refine L_dos (D_store (us := [.int .i64 ((L.length : Int) + 1)]) (show _ = some 1 by kernel_rfl) rfl rfl rfl (by simp [Value.oneCell']) hc80 (by simp)) rfl rfl ?_
  rintro h49 hp81
  have hk82 : Blk h49 r7_3 [.int .i64 (k), str p, .int .i64 (m), str tg, r7_2, .int .i64 ((L.length : Int) + 1)] := hp81.blk
  refine L_nil (X_block (X_then ?_))
  refine W_sub _ (tk3 7 4 0) ?_
  refine W_seq ?_
  refine W_held (fun h' => Blk h' r7_3 [.int .i64 (k), str p, .int .i64 (m), str tg, r7_2, .int .i64 ((L.length : Int) + 1)]) 11 rfl (by kernel_rfl) ?_
  refine LH_take (i := 0) rfl (fun h_ hI_ => Y_move rfl) rfl rfl rfl (by kernel_rfl) (by kernel_rfl) (by kernel_rfl) (fun _ _ _ => by rintro ⟨_, _, h_, _⟩; cases h_) hk82 ?_
  refine LH_take (i := 1) rfl (fun h_ hI_ => Y_move rfl) rfl rfl rfl (by kernel_rfl) (by kernel_rfl) (by kernel_rfl) (fun _ _ _ => by rintro ⟨_, _, h_, _⟩; cases h_) hk82 ?_
  refine LH_take (i := 2) rfl (fun h_ hI_ => Y_nilCheck rfl) rfl rfl rfl (by kernel_rfl) (by kernel_rfl) (by kernel_rfl) (fun _ _ _ => by rintro ⟨_, _, h_, _⟩; cases h_) hk82 ?_
  refine LH_take (i := 3) rfl (fun h_ hI_ => Y_fieldAddr (off := 0) (by kernel_rfl) rfl rfl) rfl rfl rfl (by kernel_rfl) (by kernel_rfl) (by kernel_rfl) (fun _ _ _ => by rintro ⟨_, _, h_, _⟩; cases h_) hk82 ?_
  refine LH_take (i := 5) rfl (fun h_ hI_ => Y_ldbox (us := [.int .i64 (k), str p, .int .i64 (m), str tg, r7_2, .int .i64 ((L.length : Int) + 1)]) Tryd.underlying48 rfl (show _ = some 6 by kernel_rfl) rfl hI_ rfl) rfl rfl rfl (by kernel_rfl) (by kernel_rfl) (by kernel_rfl) (fun _ _ _ => by rintro ⟨_, _, h_, _⟩; cases h_) hk82 ?_
  refine LH_two (i := 4) (j := 6) (by kernel_rfl) ?_ ?_
  ·have hc83 := (hc79.only hp81.only (ni_lt (Nat.lt_of_lt_of_le hb.lt (Nat.le_trans (Nat.le_trans me6 hx7.size) q7_3l))))
   refine LO_yld (i := 4) rfl (Y_ldblk Tryd.underlying32 rfl rfl hc83 rfl) rfl rfl rfl hk82 ?_
   refine LH_one (i := 6) (by kernel_rfl) ?_
   refine LO_mks (i := 6) rfl (M_litr (S := nodS) (l := ([⟨k, p, m, tg, r7_2, dat, (L.length : Int) + 1⟩] : List Nod)) (cells := [.int .i64 (k), str p, .int .i64 (m), str tg, r7_2, .int .i64 ((L.length : Int) + 1)]) (pv := [(0, .agg #[.int .i64 (k), str p, .int .i64 (m), str tg, r7_2, .int .i64 ((L.length : Int) + 1)])]) (E := 48) (evp (is := [0]) (os := [.tmp 93]) (vs := [.agg #[.int .i64 (k), str p, .int .i64 (m), str tg, r7_2, .int .i64 ((L.length : Int) + 1)]]) rfl rfl) rfl rfl (fun _ => by kernel_rfl) (by simp only [List.mem_cons, List.not_mem_nil, or_false, forall_eq_or_imp, forall_eq]; exact (((((Off.of q7_2).box q7_3 rfl hp27.only).ext hx76).map (hF.ext (me7.trans hx76)) hx77).box hc80 rfl hp81.only).1)) rfl rfl rfl ?_
   rintro v84 h50 ⟨ho85, hx86⟩
   refine ⟨(hk82.ext hx86), ?_⟩
   refine LH_one (i := 7) (by kernel_rfl) ?_
   have of9 := (fun d_ hd_ => Nat.le_trans (Nat.le_trans (Nat.le_trans (Nat.le_trans hn1.ext.size hn3.ext.size) hp5.only.size) hx7.size) (Own.lt q7_2 d_ (blk2_ofO hd_)).1)
   have ob1 : ∀ x ∈ L, Off h50 x.dv x.data := fun x q => (hof x q).map hF (Only.trans (Only.trans (Only.trans (Only.trans (Only.trans (Only.trans (Only.trans (Only.trans (Only.trans (Only.trans (Only.refl _ _) hn1.ext (fun _ hb_ => by cases hb_)) hn3.ext (fun _ hb_ => by cases hb_)) hp5.only (fun b_ hb_ => .inr (by rw [List.mem_singleton.1 hb_]; exact hn1.ext.size))) hx7 (fun _ hb_ => by cases hb_)) hx26 (fun _ hb_ => by cases hb_)) hp27.only (fun b_ hb_ => .inr (by rw [List.mem_singleton.1 hb_]; exact (Nat.le_trans (Nat.le_trans (Nat.le_trans (Nat.le_trans hn1.ext.size hn3.ext.size) hp5.only.size) hx7.size) q7_3l)))) hx76 (fun _ hb_ => by cases hb_)) hx77 (fun _ hb_ => .inl hb_)) hp81.only (fun b_ hb_ => .inr (by rw [List.mem_singleton.1 hb_]; exact (Nat.le_trans (Nat.le_trans (Nat.le_trans (Nat.le_trans hn1.ext.size hn3.ext.size) hp5.only.size) hx7.size) q7_3l)))) hx86 (fun _ hb_ => by cases hb_))
   have ob2 := ((((((Off.of q7_2).box q7_3 rfl hp27.only).ext hx76).map (hF.ext (me7.trans hx76)) hx77).box hc80 rfl hp81.only).ext hx86)
   have ob3 := (rowsO_map ho (Only.trans (Only.trans (Only.trans (Only.trans (Only.trans (Only.trans (Only.trans (Only.trans (Only.trans (Only.trans (Only.refl _ _) hn1.ext (fun _ hb_ => by cases hb_)) hn3.ext (fun _ hb_ => by cases hb_)) hp5.only (fun b_ hb_ => .inr (by rw [List.mem_singleton.1 hb_]; exact hn1.ext.size))) hx7 (fun _ hb_ => by cases hb_)) hx26 (fun _ hb_ => by cases hb_)) hp27.only (fun b_ hb_ => .inr (by rw [List.mem_singleton.1 hb_]; exact (Nat.le_trans (Nat.le_trans (Nat.le_trans (Nat.le_trans hn1.ext.size hn3.ext.size) hp5.only.size) hx7.size) q7_3l)))) hx76 (fun _ hb_ => by cases hb_)) hx77 (fun _ hb_ => .inl hb_)) hp81.only (fun b_ hb_ => .inr (by rw [List.mem_singleton.1 hb_]; exact (Nat.le_trans (Nat.le_trans (Nat.le_trans (Nat.le_trans hn1.ext.size hn3.ext.size) hp5.only.size) hx7.size) q7_3l)))) hx86 (fun _ hb_ => by cases hb_)) hF)
   refine LO_mks (i := 7) rfl (M_apprG (z := 6) (bytes := 80) (z0 := (.agg #[.int .i64 0, str [], .int .i64 0, str [], .slice none 0 0, .int .i64 0])) Tryd.underlying32 (by unfold elemRow; kernel_rfl) rfl rfl (by decide) rfl rfl (rowsO_map ho (Only.trans (Only.trans (Only.trans (Only.trans (Only.trans (Only.trans (Only.trans (Only.trans (Only.trans (Only.trans (Only.refl _ _) hn1.ext (fun _ hb_ => by cases hb_)) hn3.ext (fun _ hb_ => by cases hb_)) hp5.only (fun b_ hb_ => .inr (by rw [List.mem_singleton.1 hb_]; exact hn1.ext.size))) hx7 (fun _ hb_ => by cases hb_)) hx26 (fun _ hb_ => by cases hb_)) hp27.only (fun b_ hb_ => .inr (by rw [List.mem_singleton.1 hb_]; exact (Nat.le_trans (Nat.le_trans (Nat.le_trans (Nat.le_trans hn1.ext.size hn3.ext.size) hp5.only.size) hx7.size) q7_3l)))) hx76 (fun _ hb_ => by cases hb_)) hx77 (fun _ hb_ => .inl hb_)) hp81.only (fun b_ hb_ => .inr (by rw [List.mem_singleton.1 hb_]; exact (Nat.le_trans (Nat.le_trans (Nat.le_trans (Nat.le_trans hn1.ext.size hn3.ext.size) hp5.only.size) hx7.size) q7_3l)))) hx86 (fun _ hb_ => by cases hb_)) hF) ho85.rows (Nat.le_trans (Nat.le_trans (Nat.le_trans (Nat.le_trans (Nat.le_trans (Nat.le_trans (Nat.le_trans (Nat.le_trans (Nat.le_trans (Nat.le_trans hl.size hn1.ext.size) hn3.ext.size) hp5.only.size) hx7.size) hx26.size) hp27.only.size) hx76.size) hx77.size) hp81.only.size) hx86.size) (by first | (simp; omega) | (simp; done)) (fun h9 y9 hge x9 hx9 => (List.mem_append.1 hx9).elim (fun q => ((ob1 x9 q).row ob3 hnil y9).1) (fun q => by rw [List.mem_singleton.1 q]; exact (Off.row ob2 ob3 hnil y9).1))) rfl rfl rfl ?_
   rintro v87 h51 ⟨ha88, ha88l⟩
   have hc89 := ((hk82.ext hx86).only ha88.only (fun hb_ => Nat.lt_irrefl _ (Nat.lt_of_lt_of_le (Own.lt ho.1 _ (by simpa using hb_)).2 (Nat.le_trans (Nat.le_trans (Nat.le_trans (Nat.le_trans hn1.ext.size hn3.ext.size) hp5.only.size) hx7.size) q7_3l))))
   refine ⟨hc89, ?_⟩
   refine LH_take (i := 8) rfl (fun h_ hI_ => Y_nilCheck rfl) rfl rfl rfl (by kernel_rfl) (by kernel_rfl) (by kernel_rfl) (fun _ _ _ => by rintro ⟨_, _, h_, _⟩; cases h_) hc89 ?_
   refine LH_take (i := 9) rfl (fun h_ hI_ => Y_fieldAddr (off := 0) (by kernel_rfl) rfl rfl) rfl rfl rfl (by kernel_rfl) (by kernel_rfl) (by kernel_rfl) (fun _ _ _ => by rintro ⟨_, _, h_, _⟩; cases h_) hc89 ?_
   refine LH_one (i := 10) (by kernel_rfl) ?_
   have hc90 := ((hc83.ext hx86).only ha88.only (box_row ho hnil hb))
   refine LO_dos (i := 10) rfl (D_store (us := [v87]) (show _ = some 1 by kernel_rfl) rfl rfl (row_cells ha88.own.rows) (by intro u_ hu_; simp only [List.mem_cons, List.not_mem_nil, or_false] at hu_; rcases hu_ with rfl <;> first | rfl | exact row_cell1 ha88.own.rows) hc90 (by simp)) rfl rfl ?_
   rintro h52 hp91
   have hc93 := (hc89.only hp91.only (ni_gt (Nat.lt_of_lt_of_le hb.lt (Nat.le_trans (Nat.le_trans (Nat.le_trans (Nat.le_trans hn1.ext.size hn3.ext.size) hp5.only.size) hx7.size) q7_3l))))
   refine ⟨hc93, ?_⟩
   have hk92 : Blk h52 b [v87, .map (some m1), .map (some m2)] := hp91.blk
   refine LH_done (by kernel_rfl) ?_
   refine X_then ?_
   refine W_sub _ (tk1 4) ?_
   refine Wr ?_
   refine Av ?_
   refine L_nil (X_then (W_ret ?_))
   refine X_ret1 rfl rfl ?_
   have ob5 : aerr L D F k p m tg z dat = 0 := by unfold aerr; rw [if_neg e, if_neg sz]
   have hc94 := ((((((((((((hD.ext hn1.ext).ext hn3.ext).only hp5.only (ni_lt (Nat.lt_of_lt_of_le hD.lt hn1.ext.size))).ext hx7).ext hx26).only hp27.only (ni_lt (Nat.lt_of_lt_of_le hD.lt (Nat.le_trans (Nat.le_trans me6 hx7.size) q7_3l)))).ext hx76).only hx77 (fun hb_ => hne.2.2 (List.mem_singleton.1 hb_))).only hp81.only (ni_lt (Nat.lt_of_lt_of_le hD.lt (Nat.le_trans (Nat.le_trans me6 hx7.size) q7_3l)))).ext hx86).only ha88.only (map_row ho hD)).only hp91.only (fun hb_ => hne.1 (List.mem_singleton.1 hb_).symm))
   have hc95 := ((((hb78.only hp81.only (ni_lt (Nat.lt_of_lt_of_le hF.lt (Nat.le_trans (Nat.le_trans me6 hx7.size) q7_3l)))).ext hx86).only ha88.only (map_row ho hF)).only hp91.only (fun hb_ => hne.2.1 (List.mem_singleton.1 hb_).symm))
   exact ⟨by rw [ob5], .inr ⟨ob5, (Only.trans (Only.trans (Only.trans (Only.trans (Only.trans (Only.trans (Only.trans (Only.trans (Only.trans (Only.trans (Only.trans (Only.trans (Only.refl _ _) hn1.ext (fun _ hb_ => by cases hb_)) hn3.ext (fun _ hb_ => by cases hb_)) hp5.only (fun b_ hb_ => .inr (by rw [List.mem_singleton.1 hb_]; exact hn1.ext.size))) hx7 (fun _ hb_ => by cases hb_)) hx26 (fun _ hb_ => by cases hb_)) hp27.only (fun b_ hb_ => .inr (by rw [List.mem_singleton.1 hb_]; exact (Nat.le_trans (Nat.le_trans me6 hx7.size) q7_3l)))) hx76 (fun _ hb_ => by cases hb_)) hx77 (fun b_ hb_ => .inl (by rw [List.mem_singleton.1 hb_]; simp))) hp81.only (fun b_ hb_ => .inr (by rw [List.mem_singleton.1 hb_]; exact (Nat.le_trans (Nat.le_trans me6 hx7.size) q7_3l)))) hx86 (fun _ hb_ => by cases hb_)) ha88.only (fun b_ hb_ => .inl (List.mem_append_right _ hb_))) hp91.only (fun b_ hb_ => .inl (by rw [List.mem_singleton.1 hb_]; simp))), bst_of (.inr of9) (bst_new ha88.own ob1 ob2 ob3 hnil ha88.only hc90 (row_noint ho) hp91.only hk92 (SetK.congr hc94 (by unfold adir; rw [if_neg k0])) (MapA.congr hc95 (by unfold afil; rw [if_pos k1]))) (by unfold anod; rw [if_pos k1])⟩⟩
  refine LO_mks (i := 6) rfl (M_litr (S := nodS) (l := ([⟨k, p, m, tg, r7_2, dat, (L.length : Int) + 1⟩] : List Nod)) (cells := [.int .i64 (k), str p, .int .i64 (m), str tg, r7_2, .int .i64 ((L.length : Int) + 1)]) (pv := [(0, .agg #[.int .i64 (k), str p, .int .i64 (m), str tg, r7_2, .int .i64 ((L.length : Int) + 1)])]) (E := 48) (evp (is := [0]) (os := [.tmp 93]) (vs := [.agg #[.int .i64 (k), str p, .int .i64 (m), str tg, r7_2, .int .i64 ((L.length : Int) + 1)]]) rfl rfl) rfl rfl (fun _ => by kernel_rfl) (by simp only [List.mem_cons, List.not_mem_nil, or_false, forall_eq_or_imp, forall_eq]; exact (((((Off.of q7_2).box q7_3 rfl hp27.only).ext hx76).map (hF.ext (me7.trans hx76)) hx77).box hc80 rfl hp81.only).1)) rfl rfl rfl ?_
  rintro v96 h53 ⟨ho97, hx98⟩
  refine ⟨(hk82.ext hx98), ?_⟩
  refine LH_one (i := 4) (by kernel_rfl) ?_
  have hc99 := ((hc79.only hp81.only (ni_lt (Nat.lt_of_lt_of_le hb.lt (Nat.le_trans (Nat.le_trans me6 hx7.size) q7_3l)))).ext hx98)
  refine LO_yld (i := 4) rfl (Y_ldblk Tryd.underlying32 rfl rfl hc99 rfl) rfl rfl rfl (hk82.ext hx98) ?_
  refine LH_one (i := 7) (by kernel_rfl) ?_
  have of9 := (fun d_ hd_ => Nat.le_trans (Nat.le_trans (Nat.le_trans (Nat.le_trans hn1.ext.size hn3.ext.size) hp5.only.size) hx7.size) (Own.lt q7_2 d_ (blk2_ofO hd_)).1)
  have ob1 : ∀ x ∈ L, Off h53 x.dv x.data := fun x q => (hof x q).map hF (Only.trans (Only.trans (Only.trans (Only.trans (Only.trans (Only.trans (Only.trans (Only.trans (Only.trans (Only.trans (Only.refl _ _) hn1.ext (fun _ hb_ => by cases hb_)) hn3.ext (fun _ hb_ => by cases hb_)) hp5.only (fun b_ hb_ => .inr (by rw [List.mem_singleton.1 hb_]; exact hn1.ext.size))) hx7 (fun _ hb_ => by cases hb_)) hx26 (fun _ hb_ => by cases hb_)) hp27.only (fun b_ hb_ => .inr (by rw [List.mem_singleton.1 hb_]; exact (Nat.le_trans (Nat.le_trans (Nat.le_trans (Nat.le_trans hn1.ext.size hn3.ext.size) hp5.only.size) hx7.size) q7_3l)))) hx76 (fun _ hb_ => by cases hb_)) hx77 (fun _ hb_ => .inl hb_)) hp81.only (fun b_ hb_ => .inr (by rw [List.mem_singleton.1 hb_]; exact (Nat.le_trans (Nat.le_trans (Nat.le_trans (Nat.le_trans hn1.ext.size hn3.ext.size) hp5.only.size) hx7.size) q7_3l)))) hx98 (fun _ hb_ => by cases hb_))
  have ob2 := ((((((Off.of q7_2).box q7_3 rfl hp27.only).ext hx76).map (hF.ext (me7.trans hx76)) hx77).box hc80 rfl hp81.only).ext hx98)
  have ob3 := (rowsO_map ho (Only.trans (Only.trans (Only.trans (Only.trans (Only.trans (Only.trans (Only.trans (Only.trans (Only.trans (Only.trans (Only.refl _ _) hn1.ext (fun _ hb_ => by cases hb_)) hn3.ext (fun _ hb_ => by cases hb_)) hp5.only (fun b_ hb_ => .inr (by rw [List.mem_singleton.1 hb_]; exact hn1.ext.size))) hx7 (fun _ hb_ => by cases hb_)) hx26 (fun _ hb_ => by cases hb_)) hp27.only (fun b_ hb_ => .inr (by rw [List.mem_singleton.1 hb_]; exact (Nat.le_trans (Nat.le_trans (Nat.le_trans (Nat.le_trans hn1.ext.size hn3.ext.size) hp5.only.size) hx7.size) q7_3l)))) hx76 (fun _ hb_ => by cases hb_)) hx77 (fun _ hb_ => .inl hb_)) hp81.only (fun b_ hb_ => .inr (by rw [List.mem_singleton.1 hb_]; exact (Nat.le_trans (Nat.le_trans (Nat.le_trans (Nat.le_trans hn1.ext.size hn3.ext.size) hp5.only.size) hx7.size) q7_3l)))) hx98 (fun _ hb_ => by cases hb_)) hF)
  refine LO_mks (i := 7) rfl (M_apprG (z := 6) (bytes := 80) (z0 := (.agg #[.int .i64 0, str [], .int .i64 0, str [], .slice none 0 0, .int .i64 0])) Tryd.underlying32 (by unfold elemRow; kernel_rfl) rfl rfl (by decide) rfl rfl (rowsO_map ho (Only.trans (Only.trans (Only.trans (Only.trans (Only.trans (Only.trans (Only.trans (Only.trans (Only.trans (Only.trans (Only.refl _ _) hn1.ext (fun _ hb_ => by cases hb_)) hn3.ext (fun _ hb_ => by cases hb_)) hp5.only (fun b_ hb_ => .inr (by rw [List.mem_singleton.1 hb_]; exact hn1.ext.size))) hx7 (fun _ hb_ => by cases hb_)) hx26 (fun _ hb_ => by cases hb_)) hp27.only (fun b_ hb_ => .inr (by rw [List.mem_singleton.1 hb_]; exact (Nat.le_trans (Nat.le_trans (Nat.le_trans (Nat.le_trans hn1.ext.size hn3.ext.size) hp5.only.size) hx7.size) q7_3l)))) hx76 (fun _ hb_ => by cases hb_)) hx77 (fun _ hb_ => .inl hb_)) hp81.only (fun b_ hb_ => .inr (by rw [List.mem_singleton.1 hb_]; exact (Nat.le_trans (Nat.le_trans (Nat.le_trans (Nat.le_trans hn1.ext.size hn3.ext.size) hp5.only.size) hx7.size) q7_3l)))) hx98 (fun _ hb_ => by cases hb_)) hF) ho97.rows (Nat.le_trans (Nat.le_trans (Nat.le_trans (Nat.le_trans (Nat.le_trans (Nat.le_trans (Nat.le_trans (Nat.le_trans (Nat.le_trans (Nat.le_trans hl.size hn1.ext.size) hn3.ext.size) hp5.only.size) hx7.size) hx26.size) hp27.only.size) hx76.size) hx77.size) hp81.only.size) hx98.size) (by first | (simp; omega) | (simp; done)) (fun h9 y9 hge x9 hx9 => (List.mem_append.1 hx9).elim (fun q => ((ob1 x9 q).row ob3 hnil y9).1) (fun q => by rw [List.mem_singleton.1 q]; exact (Off.row ob2 ob3 hnil y9).1))) rfl rfl rfl ?_
  rintro v100 h54 ⟨ha101, ha101l⟩
  have hc102 := ((hk82.ext hx98).only ha101.only (fun hb_ => Nat.lt_irrefl _ (Nat.lt_of_lt_of_le (Own.lt ho.1 _ (by simpa using hb_)).2 (Nat.le_trans (Nat.le_trans (Nat.le_trans (Nat.le_trans hn1.ext.size hn3.ext.size) hp5.only.size) hx7.size) q7_3l))))
  refine ⟨hc102, ?_⟩
  refine LH_take (i := 8) rfl (fun h_ hI_ => Y_nilCheck rfl) rfl rfl rfl (by kernel_rfl) (by kernel_rfl) (by kernel_rfl) (fun _ _ _ => by rintro ⟨_, _, h_, _⟩; cases h_) hc102 ?_
  refine LH_take (i := 9) rfl (fun h_ hI_ => Y_fieldAddr (off := 0) (by kernel_rfl) rfl rfl) rfl rfl rfl (by kernel_rfl) (by kernel_rfl) (by kernel_rfl) (fun _ _ _ => by rintro ⟨_, _, h_, _⟩; cases h_) hc102 ?_
  refine LH_one (i := 10) (by kernel_rfl) ?_
  have hc103 := (hc99.only ha101.only (box_row ho hnil hb))
  refine LO_dos (i := 10) rfl (D_store (us := [v100]) (show _ = some 1 by kernel_rfl) rfl rfl (row_cells ha101.own.rows) (by intro u_ hu_; simp only [List.mem_cons, List.not_mem_nil, or_false] at hu_; rcases hu_ with rfl <;> first | rfl | exact row_cell1 ha101.own.rows) hc103 (by simp)) rfl rfl ?_
  rintro h55 hp104
  have hc106 := (hc102.only hp104.only (ni_gt (Nat.lt_of_lt_of_le hb.lt (Nat.le_trans (Nat.le_trans (Nat.le_trans (Nat.le_trans hn1.ext.size hn3.ext.size) hp5.only.size) hx7.size) q7_3l))))
  refine ⟨hc106, ?_⟩
  have hk105 : Blk h55 b [v100, .map (some m1), .map (some m2)] := hp104.blk
  refine LH_done (by kernel_rfl) ?_
  refine X_then ?_
  refine W_sub _ (tk1 4) ?_
  refine Wr ?_
  refine Av ?_
  refine L_nil (X_then (W_ret ?_))
  refine X_ret1 rfl rfl ?_
  have ob5 : aerr L D F k p m tg z dat = 0 := by unfold aerr; rw [if_neg e, if_neg sz]
  have hc107 := ((((((((((((hD.ext hn1.ext).ext hn3.ext).only hp5.only (ni_lt (Nat.lt_of_lt_of_le hD.lt hn1.ext.size))).ext hx7).ext hx26).only hp27.only (ni_lt (Nat.lt_of_lt_of_le hD.lt (Nat.le_trans (Nat.le_trans me6 hx7.size) q7_3l)))).ext hx76).only hx77 (fun hb_ => hne.2.2 (List.mem_singleton.1 hb_))).only hp81.only (ni_lt (Nat.lt_of_lt_of_le hD.lt (Nat.le_trans (Nat.le_trans me6 hx7.size) q7_3l)))).ext hx98).only ha101.only (map_row ho hD)).only hp104.only (fun hb_ => hne.1 (List.mem_singleton.1 hb_).symm))
  have hc108 := ((((hb78.only hp81.only (ni_lt (Nat.lt_of_lt_of_le hF.lt (Nat.le_trans (Nat.le_trans me6 hx7.size) q7_3l)))).ext hx98).only ha101.only (map_row ho hF)).only hp104.only (fun hb_ => hne.2.1 (List.mem_singleton.1 hb_).symm))
  exact ⟨by rw [ob5], .inr ⟨ob5, (Only.trans (Only.trans (Only.trans (Only.trans (Only.trans (Only.trans (Only.trans (Only.trans (Only.trans (Only.trans (Only.trans (Only.trans (Only.refl _ _) hn1.ext (fun _ hb_ => by cases hb_)) hn3.ext (fun _ hb_ => by cases hb_)) hp5.only (fun b_ hb_ => .inr (by rw [List.mem_singleton.1 hb_]; exact hn1.ext.size))) hx7 (fun _ hb_ => by cases hb_)) hx26 (fun _ hb_ => by cases hb_)) hp27.only (fun b_ hb_ => .inr (by rw [List.mem_singleton.1 hb_]; exact (Nat.le_trans (Nat.le_trans me6 hx7.size) q7_3l)))) hx76 (fun _ hb_ => by cases hb_)) hx77 (fun b_ hb_ => .inl (by rw [List.mem_singleton.1 hb_]; simp))) hp81.only (fun b_ hb_ => .inr (by rw [List.mem_singleton.1 hb_]; exact (Nat.le_trans (Nat.le_trans me6 hx7.size) q7_3l)))) hx98 (fun _ hb_ => by cases hb_)) ha101.only (fun b_ hb_ => .inl (List.mem_append_right _ hb_))) hp104.only (fun b_ hb_ => .inl (by rw [List.mem_singleton.1 hb_]; simp))), bst_of (.inr of9) (bst_new ha101.own ob1 ob2 ob3 hnil ha101.only hc103 (row_noint ho) hp104.only hk105 (SetK.congr hc107 (by unfold adir; rw [if_neg k0])) (MapA.congr hc108 (by unfold afil; rw [if_pos k1]))) (by unfold anod; rw [if_pos k1])⟩⟩
 refine Wr ?_
 refine Ly (Y_eql rfl rfl) ?_
 refine Av ?_
 refine Nx ?_
 refine W_sub _ (tk5 65 7 5 4 0) ?_
 refine W_splitd rfl (fun k3 => ?_) (fun k3 => ?_)
 ·have hi3 := achk_three hx (Classical.not_not.1 e) k3
  refine W_seq ?_
  refine W_pers [(7, .pointer (some ⟨r7_3, 0, none⟩)), (5, .pointer (some ⟨h1.size, 0, none⟩)), (4, .int .i64 0), (0, .pointer (some ⟨b, 0, none⟩))] (tk4 7 5 4 0) (by kernel_rfl) ?_
  refine LP_op 0 (fun _ vv => .pointer (some ⟨b, 0, none⟩) = vv) [] rfl rfl (by kernel_rfl) (fun _ _ _ _ p => p) ?_ ?_
  ·intro h56 hx109
   refine Needs_nil ?_
   refine Stp_yld (Y_move rfl) rfl ?_
   exact rfl
  refine LP_op 1 (fun _ vv => .pointer (some ⟨b, 0, none⟩) = vv) [(0, 67)] rfl rfl (by kernel_rfl) (fun _ _ _ _ p => p) ?_ ?_
  ·intro h57 hx110
   rintro _ rfl
   refine Needs_nil ?_
   refine Stp_yld (Y_nilCheck rfl) rfl ?_
   exact rfl
  refine LP_op 2 (fun _ vv => .pointer (some ⟨b, 0 + 0, none⟩) = vv) [(1, 68)] rfl rfl (by kernel_rfl) (fun _ _ _ _ p => p) ?_ ?_
  ·intro h58 hx111
   rintro _ rfl
   refine Needs_nil ?_
   refine Stp_yld (Y_fieldAddr (off := 0) (by kernel_rfl) rfl rfl) rfl ?_
   exact rfl
  refine LP_op 3 (fun _ vv => w = vv) [(2, 69)] rfl rfl (by kernel_rfl) (fun _ _ _ _ p => p) ?_ ?_
  ·intro h59 hx112
   rintro _ rfl
   refine Needs_nil ?_
   refine Stp_yld (Y_ldblk Tryd.underlying32 rfl rfl (hb.ext ((((((hn1.ext.trans hn3.ext).then' hp5.only (by simp) hn1.ext.size).trans hx7).trans hx26).then' hp27.only (by simp) (Nat.le_trans (Nat.le_trans (Nat.le_trans (Nat.le_trans hn1.ext.size hn3.ext.size) hp5.only.size) hx7.size) q7_3l)).trans hx112)) rfl) rfl ?_
   exact rfl
  refine LP_op 4 (fun _ vv => .pointer (some ⟨b, 0, none⟩) = vv) [] rfl rfl (by kernel_rfl) (fun _ _ _ _ p => p) ?_ ?_
  ·intro h60 hx113
   refine Needs_nil ?_
   refine Stp_yld (Y_move rfl) rfl ?_
   exact rfl
  refine LP_op 5 (fun _ vv => .pointer (some ⟨b, 0, none⟩) = vv) [(4, 71)] rfl rfl (by kernel_rfl) (fun _ _ _ _ p => p) ?_ ?_
  ·intro h61 hx114
   rintro _ rfl
   refine Needs_nil ?_
   refine Stp_yld (Y_nilCheck rfl) rfl ?_
   exact rfl
  refine LP_op 6 (fun _ vv => .pointer (some ⟨b, 0 + 2, none⟩) = vv) [(5, 72)] rfl rfl (by kernel_rfl) (fun _ _ _ _ p => p) ?_ ?_
  ·intro h62 hx115
   rintro _ rfl
   refine Needs_nil ?_
   refine Stp_yld (Y_fieldAddr (off := 2) (by kernel_rfl) rfl rfl) rfl ?_
   exact rfl
  refine LP_op 7 (fun _ vv => .map (some m2) = vv) [(6, 73)] rfl rfl (by kernel_rfl) (fun _ _ _ _ p => p) ?_ ?_
  ·intro h63 hx116
   rintro _ rfl
   refine Needs_nil ?_
   refine Stp_yld (Y_ldblk Tryd.underlying61 rfl rfl (hb.ext ((((((hn1.ext.trans hn3.ext).then' hp5.only (by simp) hn1.ext.size).trans hx7).trans hx26).then' hp27.only (by simp) (Nat.le_trans (Nat.le_trans (Nat.le_trans (Nat.le_trans hn1.ext.size hn3.ext.size) hp5.only.size) hx7.size) q7_3l)).trans hx116)) rfl) rfl ?_
   exact rfl
  refine LP_op 8 (fun _ vv => .pointer (some ⟨h1.size, 0 + 3, none⟩) = vv) [] rfl rfl (by kernel_rfl) (fun _ _ _ _ p => p) ?_ ?_
  ·intro h64 hx117
   refine Needs_nil ?_
   refine Stp_yld (Y_fieldAddr (off := 3) (by kernel_rfl) rfl rfl) rfl ?_
   exact rfl
  refine LP_op 9 (fun _ vv => str tg = vv) [(8, 75)] rfl rfl (by kernel_rfl) (fun _ _ _ _ p => p) ?_ ?_
  ·intro h65 hx118
   rintro _ rfl
   refine Needs_nil ?_
   refine Stp_yld (Y_ldblk Tryd.underlying9 rfl rfl (hk6.ext (((hx7.trans hx26).then' hp27.only (by simp) (Nat.le_trans hx7.size q7_3l)).trans hx118)) rfl) rfl ?_
   exact rfl
  refine LP_op 10 (fun _ vv => .int .i64 ((aget F tg).getD (0 : Int)) = vv) [(7, 74), (9, 76)] rfl rfl (by kernel_rfl) (fun _ _ _ _ p => p) ?_ ?_
  ·intro h66 hx119
   rintro _ rfl
   rintro _ rfl
   refine Needs_nil ?_
   refine Stp_yld (Y_lookA (evl := (fun z : Int => .int .i64 z)) (k := tg) (u := (0 : Int)) keyS Tryd.underlying61 Tryd.underlying9 (by kernel_rfl) rfl rfl (hF.ext ((((((hn1.ext.trans hn3.ext).then' hp5.only (by simp) hn1.ext.size).trans hx7).trans hx26).then' hp27.only (by simp) (Nat.le_trans (Nat.le_trans (Nat.le_trans (Nat.le_trans hn1.ext.size hn3.ext.size) hp5.only.size) hx7.size) q7_3l)).trans hx119))) rfl ?_
   exact rfl
  refine LP_op 11 (fun _ vv => .pointer (some (elemAddr w (((aget F tg).getD (0 : Int)).toNat * 6))) = vv) [(10, 77), (3, 70)] rfl rfl (by kernel_rfl) (fun _ _ _ _ p => p) ?_ ?_
  ·intro h67 hx120
   rintro _ rfl
   rintro _ rfl
   refine Needs_nil ?_
   refine Stp_yld (Y_idxr Tryd.underlying32 (show _ = some 6 by kernel_rfl) rfl rfl rfl (ho.rows.ext ((((((hn1.ext.trans hn3.ext).then' hp5.only (by simp) hn1.ext.size).trans hx7).trans hx26).then' hp27.only (by simp) (Nat.le_trans (Nat.le_trans (Nat.le_trans (Nat.le_trans hn1.ext.size hn3.ext.size) hp5.only.size) hx7.size) q7_3l)).trans hx120)) (by omega) (by omega)) rfl ?_
   exact rfl
  refine LP_op 12 (fun _ vv => .agg #[.int .i64 ((at_nod L ((aget F tg).getD (0 : Int)).toNat).kind), str ((at_nod L ((aget F tg).getD (0 : Int)).toNat).path), .int .i64 ((at_nod L ((aget F tg).getD (0 : Int)).toNat).mode), str ((at_nod L ((aget F tg).getD (0 : Int)).toNat).target), ((at_nod L ((aget F tg).getD (0 : Int)).toNat).dv), .int .i64 ((at_nod L ((aget F tg).getD (0 : Int)).toNat).cls)] = vv) [(11, 78)] rfl rfl (by kernel_rfl) (fun _ _ _ _ p => p) ?_ ?_
  ·intro h68 hx121
   rintro _ rfl
   refine Needs_nil ?_
   refine Stp_yld (Y_ldrA0 (k := ((aget F tg).getD (0 : Int)).toNat) (us := [.int .i64 ((at_nod L ((aget F tg).getD (0 : Int)).toNat).kind), str ((at_nod L ((aget F tg).getD (0 : Int)).toNat).path), .int .i64 ((at_nod L ((aget F tg).getD (0 : Int)).toNat).mode), str ((at_nod L ((aget F tg).getD (0 : Int)).toNat).target), ((at_nod L ((aget F tg).getD (0 : Int)).toNat).dv), .int .i64 ((at_nod L ((aget F tg).getD (0 : Int)).toNat).cls)]) Tryd.underlying48 rfl (show _ = some 6 by kernel_rfl) rfl rfl (ho.rows.ext ((((((hn1.ext.trans hn3.ext).then' hp5.only (by simp) hn1.ext.size).trans hx7).trans hx26).then' hp27.only (by simp) (Nat.le_trans (Nat.le_trans (Nat.le_trans (Nat.le_trans hn1.ext.size hn3.ext.size) hp5.only.size) hx7.size) q7_3l)).trans hx121)) (by omega) rfl) rfl ?_
   exact rfl
  refine LP_op 13 (fun hh vv => ∃ r15_1, vv = .pointer (some ⟨r15_1, 0, none⟩) ∧ Blk hh r15_1 [.int .i64 0, str [], .int .i64 0, str [], .slice none 0 0, .int .i64 0] ∧ h21.size ≤ r15_1) [] rfl rfl (by kernel_rfl) (fun _ _ _ x_ p_ => by obtain ⟨r15_1, rfl, q15_1, q15_1l⟩ := p_; exact ⟨_, rfl, q15_1.ext x_, q15_1l⟩) ?_ ?_
  ·intro h69 hx122
   refine Needs_nil ?_
   refine Stp_mks (M_alloc (u := .agg #[.int .i64 0, str [], .int .i64 0, str [], .slice none 0 0, .int .i64 0]) (by kernel_rfl)) rfl ?_
   rintro _ h70 ⟨rfl, hn123⟩
   have hk124 : Blk h70 h69.size [.int .i64 0, str [], .int .i64 0, str [], .slice none 0 0, .int .i64 0] := hn123.blk
   exact ⟨hn123.ext, ⟨h69.size, rfl, hk124, hx122.size⟩⟩
  refine LP_tail rfl 14 [(12, 79), (13, 8)] rfl rfl (by kernel_rfl) (by kernel_rfl) (by kernel_rfl) rfl ?_
  intro h71 hx125
  rintro _ rfl
  rintro _ ⟨r15_1, rfl, q15_1, q15_1l⟩
  refine Needs_nil ?_
  have me8 := Nat.le_trans (Nat.le_trans hn1.ext.size hn3.ext.size) hp5.only.size
  have me9 := ((me1.trans hx7).trans hx26).then' hp27.only (by simp) (Nat.le_trans (Nat.le_trans me8 hx7.size) q7_3l)
  refine L_dos (D_store (us := [.int .i64 ((at_nod L ((aget F tg).getD (0 : Int)).toNat).kind), str ((at_nod L ((aget F tg).getD (0 : Int)).toNat).path), .int .i64 ((at_nod L ((aget F tg).getD (0 : Int)).toNat).mode), str ((at_nod L ((aget F tg).getD (0 : Int)).toNat).target), ((at_nod L ((aget F tg).getD (0 : Int)).toNat).dv), .int .i64 ((at_nod L ((aget F tg).getD (0 : Int)).toNat).cls)]) (show _ = some 6 by kernel_rfl) rfl rfl rfl (by intro u_ hu_; simp only [List.mem_cons, List.not_mem_nil, or_false] at hu_; rcases hu_ with rfl | rfl | rfl | rfl | rfl | rfl <;> first | rfl | exact ((show Bytes _ ((at_nod L ((aget F tg).getD (0 : Int)).toNat).dv) ((at_nod L ((aget F tg).getD (0 : Int)).toNat).data) from (ho.rows.ext (me9.trans hx125)).okat (k := ((aget F tg).getD (0 : Int)).toNat) (by omega))).cell1) q15_1 (by simp)) rfl rfl ?_
  rintro h72 hp126
  have hk127 : Blk h72 r15_1 [.int .i64 ((at_nod L ((aget F tg).getD (0 : Int)).toNat).kind), str ((at_nod L ((aget F tg).getD (0 : Int)).toNat).path), .int .i64 ((at_nod L ((aget F tg).getD (0 : Int)).toNat).mode), str ((at_nod L ((aget F tg).getD (0 : Int)).toNat).target), ((at_nod L ((aget F tg).getD (0 : Int)).toNat).dv), .int .i64 ((at_nod L ((aget F tg).getD (0 : Int)).toNat).cls)] := hp126.blk
  refine Nx ?_
  refine W_sub _ (tk4 8 7 4 0) ?_
  refine W_held (fun h' => Blk h' r15_1 [.int .i64 ((at_nod L ((aget F tg).getD (0 : Int)).toNat).kind), str ((at_nod L ((aget F tg).getD (0 : Int)).toNat).path), .int .i64 ((at_nod L ((aget F tg).getD (0 : Int)).toNat).mode), str ((at_nod L ((aget F tg).getD (0 : Int)).toNat).target), ((at_nod L ((aget F tg).getD (0 : Int)).toNat).dv), .int .i64 ((at_nod L ((aget F tg).getD (0 : Int)).toNat).cls)]) 12 rfl (by kernel_rfl) ?_
  refine LH_take (i := 0) rfl (fun h_ hI_ => Y_fieldAddr (off := 4) (by kernel_rfl) rfl rfl) rfl rfl rfl (by kernel_rfl) (by kernel_rfl) (by kernel_rfl) (fun _ _ _ => by rintro ⟨_, _, h_, _⟩; cases h_) hk127 ?_
  refine LH_take (i := 1) rfl (fun h_ hI_ => Y_ldblk Tryd.underlying28 rfl rfl hI_ rfl) rfl rfl rfl (by kernel_rfl) (by kernel_rfl) (by kernel_rfl) (fun _ _ _ => by rintro ⟨_, _, h_, _⟩; cases h_) hk127 ?_
  refine LH_take (i := 2) rfl (fun h_ hI_ => Y_fieldAddr (off := 5) (by kernel_rfl) rfl rfl) rfl rfl rfl (by kernel_rfl) (by kernel_rfl) (by kernel_rfl) (fun _ _ _ => by rintro ⟨_, _, h_, _⟩; cases h_) hk127 ?_
  refine LH_take (i := 3) rfl (fun h_ hI_ => Y_ldblk Tryd.underlying3 rfl rfl hI_ rfl) rfl rfl rfl (by kernel_rfl) (by kernel_rfl) (by kernel_rfl) (fun _ _ _ => by rintro ⟨_, _, h_, _⟩; cases h_) hk127 ?_
  refine LH_take (i := 4) rfl (fun h_ hI_ => Y_fieldAddr (off := 0) (by kernel_rfl) rfl rfl) rfl rfl rfl (by kernel_rfl) (by kernel_rfl) (by kernel_rfl) (fun _ _ _ => by rintro ⟨_, _, h_, _⟩; cases h_) hk127 ?_
  refine LH_one (i := 5) (by kernel_rfl) ?_
  refine LO_dos (i := 5) rfl (D_store (us := [.int .i64 1]) (show _ = some 1 by kernel_rfl) rfl rfl rfl (by simp [Value.oneCell']) (hk28.ext (hx125.then' hp126.only (by simp) q15_1l)) (by simp)) rfl rfl ?_
  rintro h73 hp128
  have hc130 := (hk127.only hp128.only (ni_gt (Nat.lt_of_lt_of_le q7_3.lt (Nat.le_trans hp27.only.size q15_1l))))
  refine ⟨hc130, ?_⟩
  have hk129 : Blk h73 r7_3 [.int .i64 1, str p, .int .i64 (m), str tg, r7_2, .int .i64 0] := hp128.blk
  refine LH_take (i := 6) rfl (fun h_ hI_ => Y_fieldAddr (off := 3) (by kernel_rfl) rfl rfl) rfl rfl rfl (by kernel_rfl) (by kernel_rfl) (by kernel_rfl) (fun _ _ _ => by rintro ⟨_, _, h_, _⟩; cases h_) hc130 ?_
  refine LH_one (i := 7) (by kernel_rfl) ?_
  refine LO_dos (i := 7) rfl (D_store (us := [str []]) (show _ = some 1 by kernel_rfl) rfl rfl rfl (by simp [Value.oneCell']) hk129 (by simp)) rfl rfl ?_
  rintro h74 hp131
  have hc133 := (hc130.only hp131.only (ni_gt (Nat.lt_of_lt_of_le q7_3.lt (Nat.le_trans hp27.only.size q15_1l))))
  refine ⟨hc133, ?_⟩
  have hk132 : Blk h74 r7_3 [.int .i64 1, str p, .int .i64 (m), str [], r7_2, .int .i64 0] := hp131.blk
  refine LH_take (i := 8) rfl (fun h_ hI_ => Y_fieldAddr (off := 4) (by kernel_rfl) rfl rfl) rfl rfl rfl (by kernel_rfl) (by kernel_rfl) (by kernel_rfl) (fun _ _ _ => by rintro ⟨_, _, h_, _⟩; cases h_) hc133 ?_
  refine LH_one (i := 9) (by kernel_rfl) ?_
  refine LO_dos (i := 9) rfl (D_store (us := [((at_nod L ((aget F tg).getD (0 : Int)).toNat).dv)]) (show _ = some 1 by kernel_rfl) rfl rfl (cells_slice (show Bytes _ ((at_nod L ((aget F tg).getD (0 : Int)).toNat).dv) ((at_nod L ((aget F tg).getD (0 : Int)).toNat).data) from (ho.rows.ext (((((((((hn1.ext.trans hn3.ext).then' hp5.only (by simp) hn1.ext.size).trans hx7).trans hx26).then' hp27.only (by simp) (Nat.le_trans (Nat.le_trans (Nat.le_trans (Nat.le_trans hn1.ext.size hn3.ext.size) hp5.only.size) hx7.size) q7_3l)).trans hx125).then' hp126.only (by simp) (Nat.le_trans (Nat.le_trans (Nat.le_trans (Nat.le_trans (Nat.le_trans (Nat.le_trans hn1.ext.size hn3.ext.size) hp5.only.size) hx7.size) hx26.size) hp27.only.size) q15_1l)).then' hp128.only (by simp) (Nat.le_trans (Nat.le_trans (Nat.le_trans (Nat.le_trans hn1.ext.size hn3.ext.size) hp5.only.size) hx7.size) q7_3l)).then' hp131.only (by simp) (Nat.le_trans (Nat.le_trans (Nat.le_trans (Nat.le_trans hn1.ext.size hn3.ext.size) hp5.only.size) hx7.size) q7_3l))).okat (k := ((aget F tg).getD (0 : Int)).toNat) (by omega))) (by intro u_ hu_; simp only [List.mem_cons, List.not_mem_nil, or_false] at hu_; rcases hu_ with rfl <;> first | rfl | exact ((show Bytes _ ((at_nod L ((aget F tg).getD (0 : Int)).toNat).dv) ((at_nod L ((aget F tg).getD (0 : Int)).toNat).data) from (ho.rows.ext (((((((((hn1.ext.trans hn3.ext).then' hp5.only (by simp) hn1.ext.size).trans hx7).trans hx26).then' hp27.only (by simp) (Nat.le_trans (Nat.le_trans (Nat.le_trans (Nat.le_trans hn1.ext.size hn3.ext.size) hp5.only.size) hx7.size) q7_3l)).trans hx125).then' hp126.only (by simp) (Nat.le_trans (Nat.le_trans (Nat.le_trans (Nat.le_trans (Nat.le_trans (Nat.le_trans hn1.ext.size hn3.ext.size) hp5.only.size) hx7.size) hx26.size) hp27.only.size) q15_1l)).then' hp128.only (by simp) (Nat.le_trans (Nat.le_trans (Nat.le_trans (Nat.le_trans hn1.ext.size hn3.ext.size) hp5.only.size) hx7.size) q7_3l)).then' hp131.only (by simp) (Nat.le_trans (Nat.le_trans (Nat.le_trans (Nat.le_trans hn1.ext.size hn3.ext.size) hp5.only.size) hx7.size) q7_3l))).okat (k := ((aget F tg).getD (0 : Int)).toNat) (by omega))).cell1) hk132 (by simp)) rfl rfl ?_
  rintro h75 hp134
  have hc136 := (hc133.only hp134.only (ni_gt (Nat.lt_of_lt_of_le q7_3.lt (Nat.le_trans hp27.only.size q15_1l))))
  refine ⟨hc136, ?_⟩
  have hk135 : Blk h75 r7_3 [.int .i64 1, str p, .int .i64 (m), str [], ((at_nod L ((aget F tg).getD (0 : Int)).toNat).dv), .int .i64 0] := hp134.blk
  refine LH_take (i := 10) rfl (fun h_ hI_ => Y_fieldAddr (off := 5) (by kernel_rfl) rfl rfl) rfl rfl rfl (by kernel_rfl) (by kernel_rfl) (by kernel_rfl) (fun _ _ _ => by rintro ⟨_, _, h_, _⟩; cases h_) hc136 ?_
  refine LH_one (i := 11) (by kernel_rfl) ?_
  refine LO_dos (i := 11) rfl (D_store (us := [.int .i64 ((at_nod L ((aget F tg).getD (0 : Int)).toNat).cls)]) (show _ = some 1 by kernel_rfl) rfl rfl rfl (by simp [Value.oneCell']) hk135 (by simp)) rfl rfl ?_
  rintro h76 hp137
  have hc139 := (hc136.only hp137.only (ni_gt (Nat.lt_of_lt_of_le q7_3.lt (Nat.le_trans hp27.only.size q15_1l))))
  refine ⟨hc139, ?_⟩
  have hk138 : Blk h76 r7_3 [.int .i64 1, str p, .int .i64 (m), str [], ((at_nod L ((aget F tg).getD (0 : Int)).toNat).dv), .int .i64 ((at_nod L ((aget F tg).getD (0 : Int)).toNat).cls)] := hp137.blk
  refine LH_done (by kernel_rfl) ?_
  refine X_block (X_then ?_)
  refine W_sub _ (tk3 7 4 0) ?_
  refine W_seq ?_
  refine W_held (fun h' => Blk h' r7_3 [.int .i64 1, str p, .int .i64 (m), str [], ((at_nod L ((aget F tg).getD (0 : Int)).toNat).dv), .int .i64 ((at_nod L ((aget F tg).getD (0 : Int)).toNat).cls)]) 11 rfl (by kernel_rfl) ?_
  refine LH_take (i := 0) rfl (fun h_ hI_ => Y_move rfl) rfl rfl rfl (by kernel_rfl) (by kernel_rfl) (by kernel_rfl) (fun _ _ _ => by rintro ⟨_, _, h_, _⟩; cases h_) hk138 ?_
  refine LH_take (i := 1) rfl (fun h_ hI_ => Y_move rfl) rfl rfl rfl (by kernel_rfl) (by kernel_rfl) (by kernel_rfl) (fun _ _ _ => by rintro ⟨_, _, h_, _⟩; cases h_) hk138 ?_
  refine LH_take (i := 2) rfl (fun h_ hI_ => Y_nilCheck rfl) rfl rfl rfl (by kernel_rfl) (by kernel_rfl) (by kernel_rfl) (fun _ _ _ => by rintro ⟨_, _, h_, _⟩; cases h_) hk138 ?_
  refine LH_take (i := 3) rfl (fun h_ hI_ => Y_fieldAddr (off := 0) (by kernel_rfl) rfl rfl) rfl rfl rfl (by kernel_rfl) (by kernel_rfl) (by kernel_rfl) (fun _ _ _ => by rintro ⟨_, _, h_, _⟩; cases h_) hk138 ?_
  refine LH_take (i := 5) rfl (fun h_ hI_ => Y_ldbox (us := [.int .i64 1, str p, .int .i64 (m), str [], ((at_nod L ((aget F tg).getD (0 : Int)).toNat).dv), .int .i64 ((at_nod L ((aget F tg).getD (0 : Int)).toNat).cls)]) Tryd.underlying48 rfl (show _ = some 6 by kernel_rfl) rfl hI_ rfl) rfl rfl rfl (by kernel_rfl) (by kernel_rfl) (by kernel_rfl) (fun _ _ _ => by rintro ⟨_, _, h_, _⟩; cases h_) hk138 ?_
  refine LH_two (i := 4) (j := 6) (by kernel_rfl) ?_ ?_
  ·have me10 := Nat.le_trans (Nat.le_trans (Nat.le_trans me8 hx7.size) hx26.size) hp27.only.size
   have me11 := (me9.trans hx125).then' hp126.only (by simp) (Nat.le_trans me10 q15_1l)
   have me12 := me11.then' hp128.only (by simp) (Nat.le_trans (Nat.le_trans me8 hx7.size) q7_3l)
   have me13 := me12.then' hp131.only (by simp) (Nat.le_trans (Nat.le_trans me8 hx7.size) q7_3l)
   have me14 := me13.then' hp134.only (by simp) (Nat.le_trans (Nat.le_trans me8 hx7.size) q7_3l)
   have me15 := me14.then' hp137.only (by simp) (Nat.le_trans (Nat.le_trans me8 hx7.size) q7_3l)
   refine LO_yld (i := 4) rfl (Y_ldblk Tryd.underlying32 rfl rfl (hb.ext me15) rfl) rfl rfl rfl hk138 ?_
   refine LH_one (i := 6) (by kernel_rfl) ?_
   refine LO_mks (i := 6) rfl (M_litr (S := nodS) (l := ([⟨(1 : Int), p, m, [], ((at_nod L ((aget F tg).getD (0 : Int)).toNat).dv), (at_nod L ((aget F tg).getD (0 : Int)).toNat).data, (at_nod L ((aget F tg).getD (0 : Int)).toNat).cls⟩] : List Nod)) (cells := [.int .i64 1, str p, .int .i64 (m), str [], ((at_nod L ((aget F tg).getD (0 : Int)).toNat).dv), .int .i64 ((at_nod L ((aget F tg).getD (0 : Int)).toNat).cls)]) (pv := [(0, .agg #[.int .i64 1, str p, .int .i64 (m), str [], ((at_nod L ((aget F tg).getD (0 : Int)).toNat).dv), .int .i64 ((at_nod L ((aget F tg).getD (0 : Int)).toNat).cls)])]) (E := 48) (evp (is := [0]) (os := [.tmp 93]) (vs := [.agg #[.int .i64 1, str p, .int .i64 (m), str [], ((at_nod L ((aget F tg).getD (0 : Int)).toNat).dv), .int .i64 ((at_nod L ((aget F tg).getD (0 : Int)).toNat).cls)]]) rfl rfl) rfl rfl (fun _ => by kernel_rfl) (by simp only [List.mem_cons, List.not_mem_nil, or_false, forall_eq_or_imp, forall_eq]; exact (show Bytes _ ((at_nod L ((aget F tg).getD (0 : Int)).toNat).dv) ((at_nod L ((aget F tg).getD (0 : Int)).toNat).data) from (ho.rows.ext (((((((((((hn1.ext.trans hn3.ext).then' hp5.only (by simp) hn1.ext.size).trans hx7).trans hx26).then' hp27.only (by simp) (Nat.le_trans (Nat.le_trans (Nat.le_trans (Nat.le_trans hn1.ext.size hn3.ext.size) hp5.only.size) hx7.size) q7_3l)).trans hx125).then' hp126.only (by simp) (Nat.le_trans (Nat.le_trans (Nat.le_trans (Nat.le_trans (Nat.le_trans (Nat.le_trans hn1.ext.size hn3.ext.size) hp5.only.size) hx7.size) hx26.size) hp27.only.size) q15_1l)).then' hp128.only (by simp) (Nat.le_trans (Nat.le_trans (Nat.le_trans (Nat.le_trans hn1.ext.size hn3.ext.size) hp5.only.size) hx7.size) q7_3l)).then' hp131.only (by simp) (Nat.le_trans (Nat.le_trans (Nat.le_trans (Nat.le_trans hn1.ext.size hn3.ext.size) hp5.only.size) hx7.size) q7_3l)).then' hp134.only (by simp) (Nat.le_trans (Nat.le_trans (Nat.le_trans (Nat.le_trans hn1.ext.size hn3.ext.size) hp5.only.size) hx7.size) q7_3l)).then' hp137.only (by simp) (Nat.le_trans (Nat.le_trans (Nat.le_trans (Nat.le_trans hn1.ext.size hn3.ext.size) hp5.only.size) hx7.size) q7_3l))).okat (k := ((aget F tg).getD (0 : Int)).toNat) (by omega)))) rfl rfl rfl ?_
   rintro v140 h77 ⟨ho141, hx142⟩
   refine ⟨(hk138.ext hx142), ?_⟩
   refine LH_one (i := 7) (by kernel_rfl) ?_
   have ob1 : ∀ x ∈ L, Off h77 x.dv x.data := fun x q => (hof x q).ext ((((((((((((hn1.ext.trans hn3.ext).then' hp5.only (by simp) hn1.ext.size).trans hx7).trans hx26).then' hp27.only (by simp) (Nat.le_trans (Nat.le_trans (Nat.le_trans (Nat.le_trans hn1.ext.size hn3.ext.size) hp5.only.size) hx7.size) q7_3l)).trans hx125).then' hp126.only (by simp) (Nat.le_trans (Nat.le_trans (Nat.le_trans (Nat.le_trans (Nat.le_trans (Nat.le_trans hn1.ext.size hn3.ext.size) hp5.only.size) hx7.size) hx26.size) hp27.only.size) q15_1l)).then' hp128.only (by simp) (Nat.le_trans (Nat.le_trans (Nat.le_trans (Nat.le_trans hn1.ext.size hn3.ext.size) hp5.only.size) hx7.size) q7_3l)).then' hp131.only (by simp) (Nat.le_trans (Nat.le_trans (Nat.le_trans (Nat.le_trans hn1.ext.size hn3.ext.size) hp5.only.size) hx7.size) q7_3l)).then' hp134.only (by simp) (Nat.le_trans (Nat.le_trans (Nat.le_trans (Nat.le_trans hn1.ext.size hn3.ext.size) hp5.only.size) hx7.size) q7_3l)).then' hp137.only (by simp) (Nat.le_trans (Nat.le_trans (Nat.le_trans (Nat.le_trans hn1.ext.size hn3.ext.size) hp5.only.size) hx7.size) q7_3l)).trans hx142)
   have ob2 := (hof _ (can_mem hi3.2)).ext ((((((((((((hn1.ext.trans hn3.ext).then' hp5.only (by simp) hn1.ext.size).trans hx7).trans hx26).then' hp27.only (by simp) (Nat.le_trans (Nat.le_trans (Nat.le_trans (Nat.le_trans hn1.ext.size hn3.ext.size) hp5.only.size) hx7.size) q7_3l)).trans hx125).then' hp126.only (by simp) (Nat.le_trans (Nat.le_trans (Nat.le_trans (Nat.le_trans (Nat.le_trans (Nat.le_trans hn1.ext.size hn3.ext.size) hp5.only.size) hx7.size) hx26.size) hp27.only.size) q15_1l)).then' hp128.only (by simp) (Nat.le_trans (Nat.le_trans (Nat.le_trans (Nat.le_trans hn1.ext.size hn3.ext.size) hp5.only.size) hx7.size) q7_3l)).then' hp131.only (by simp) (Nat.le_trans (Nat.le_trans (Nat.le_trans (Nat.le_trans hn1.ext.size hn3.ext.size) hp5.only.size) hx7.size) q7_3l)).then' hp134.only (by simp) (Nat.le_trans (Nat.le_trans (Nat.le_trans (Nat.le_trans hn1.ext.size hn3.ext.size) hp5.only.size) hx7.size) q7_3l)).then' hp137.only (by simp) (Nat.le_trans (Nat.le_trans (Nat.le_trans (Nat.le_trans hn1.ext.size hn3.ext.size) hp5.only.size) hx7.size) q7_3l)).trans hx142)
   have ob3 := (ho.ext ((((((((((((hn1.ext.trans hn3.ext).then' hp5.only (by simp) hn1.ext.size).trans hx7).trans hx26).then' hp27.only (by simp) (Nat.le_trans (Nat.le_trans (Nat.le_trans (Nat.le_trans hn1.ext.size hn3.ext.size) hp5.only.size) hx7.size) q7_3l)).trans hx125).then' hp126.only (by simp) (Nat.le_trans (Nat.le_trans (Nat.le_trans (Nat.le_trans (Nat.le_trans (Nat.le_trans hn1.ext.size hn3.ext.size) hp5.only.size) hx7.size) hx26.size) hp27.only.size) q15_1l)).then' hp128.only (by simp) (Nat.le_trans (Nat.le_trans (Nat.le_trans (Nat.le_trans hn1.ext.size hn3.ext.size) hp5.only.size) hx7.size) q7_3l)).then' hp131.only (by simp) (Nat.le_trans (Nat.le_trans (Nat.le_trans (Nat.le_trans hn1.ext.size hn3.ext.size) hp5.only.size) hx7.size) q7_3l)).then' hp134.only (by simp) (Nat.le_trans (Nat.le_trans (Nat.le_trans (Nat.le_trans hn1.ext.size hn3.ext.size) hp5.only.size) hx7.size) q7_3l)).then' hp137.only (by simp) (Nat.le_trans (Nat.le_trans (Nat.le_trans (Nat.le_trans hn1.ext.size hn3.ext.size) hp5.only.size) hx7.size) q7_3l)).trans hx142))
   refine LO_mks (i := 7) rfl (M_apprG (z := 6) (bytes := 80) (z0 := (.agg #[.int .i64 0, str [], .int .i64 0, str [], .slice none 0 0, .int .i64 0])) Tryd.underlying32 (by unfold elemRow; kernel_rfl) rfl rfl (by decide) rfl rfl (ho.ext ((((((((((((hn1.ext.trans hn3.ext).then' hp5.only (by simp) hn1.ext.size).trans hx7).trans hx26).then' hp27.only (by simp) (Nat.le_trans (Nat.le_trans (Nat.le_trans (Nat.le_trans hn1.ext.size hn3.ext.size) hp5.only.size) hx7.size) q7_3l)).trans hx125).then' hp126.only (by simp) (Nat.le_trans (Nat.le_trans (Nat.le_trans (Nat.le_trans (Nat.le_trans (Nat.le_trans hn1.ext.size hn3.ext.size) hp5.only.size) hx7.size) hx26.size) hp27.only.size) q15_1l)).then' hp128.only (by simp) (Nat.le_trans (Nat.le_trans (Nat.le_trans (Nat.le_trans hn1.ext.size hn3.ext.size) hp5.only.size) hx7.size) q7_3l)).then' hp131.only (by simp) (Nat.le_trans (Nat.le_trans (Nat.le_trans (Nat.le_trans hn1.ext.size hn3.ext.size) hp5.only.size) hx7.size) q7_3l)).then' hp134.only (by simp) (Nat.le_trans (Nat.le_trans (Nat.le_trans (Nat.le_trans hn1.ext.size hn3.ext.size) hp5.only.size) hx7.size) q7_3l)).then' hp137.only (by simp) (Nat.le_trans (Nat.le_trans (Nat.le_trans (Nat.le_trans hn1.ext.size hn3.ext.size) hp5.only.size) hx7.size) q7_3l)).trans hx142)) ho141.rows (Nat.le_trans (Nat.le_trans (Nat.le_trans (Nat.le_trans (Nat.le_trans (Nat.le_trans (Nat.le_trans (Nat.le_trans (Nat.le_trans (Nat.le_trans (Nat.le_trans (Nat.le_trans (Nat.le_trans hl.size hn1.ext.size) hn3.ext.size) hp5.only.size) hx7.size) hx26.size) hp27.only.size) hx125.size) hp126.only.size) hp128.only.size) hp131.only.size) hp134.only.size) hp137.only.size) hx142.size) (by first | (simp; omega) | (simp; done)) (fun h9 y9 hge x9 hx9 => (List.mem_append.1 hx9).elim (fun q => ((ob1 x9 q).row ob3 hnil y9).1) (fun q => by rw [List.mem_singleton.1 q]; exact (Off.row ob2 ob3 hnil y9).1))) rfl rfl rfl ?_
   rintro v143 h78 ⟨ha144, ha144l⟩
   have hc145 := ((hk138.ext hx142).only ha144.only (fun hb_ => Nat.lt_irrefl _ (Nat.lt_of_lt_of_le (Own.lt ho.1 _ (by simpa using hb_)).2 (Nat.le_trans (Nat.le_trans (Nat.le_trans (Nat.le_trans hn1.ext.size hn3.ext.size) hp5.only.size) hx7.size) q7_3l))))
   refine ⟨hc145, ?_⟩
   refine LH_take (i := 8) rfl (fun h_ hI_ => Y_nilCheck rfl) rfl rfl rfl (by kernel_rfl) (by kernel_rfl) (by kernel_rfl) (fun _ _ _ => by rintro ⟨_, _, h_, _⟩; cases h_) hc145 ?_
   refine LH_take (i := 9) rfl (fun h_ hI_ => Y_fieldAddr (off := 0) (by kernel_rfl) rfl rfl) rfl rfl rfl (by kernel_rfl) (by kernel_rfl) (by kernel_rfl) (fun _ _ _ => by rintro ⟨_, _, h_, _⟩; cases h_) hc145 ?_
   refine LH_one (i := 10) (by kernel_rfl) ?_
   have hc146 := ((((((((((((((hb.ext hn1.ext).ext hn3.ext).only hp5.only (ni_lt (Nat.lt_of_lt_of_le hb.lt hn1.ext.size))).ext hx7).ext hx26).only hp27.only (ni_lt (Nat.lt_of_lt_of_le hb.lt (Nat.le_trans (Nat.le_trans (Nat.le_trans (Nat.le_trans hn1.ext.size hn3.ext.size) hp5.only.size) hx7.size) q7_3l)))).ext hx125).only hp126.only (ni_lt (Nat.lt_of_lt_of_le hb.lt (Nat.le_trans (Nat.le_trans (Nat.le_trans (Nat.le_trans (Nat.le_trans (Nat.le_trans hn1.ext.size hn3.ext.size) hp5.only.size) hx7.size) hx26.size) hp27.only.size) q15_1l)))).only hp128.only (ni_lt (Nat.lt_of_lt_of_le hb.lt (Nat.le_trans (Nat.le_trans (Nat.le_trans (Nat.le_trans hn1.ext.size hn3.ext.size) hp5.only.size) hx7.size) q7_3l)))).only hp131.only (ni_lt (Nat.lt_of_lt_of_le hb.lt (Nat.le_trans (Nat.le_trans (Nat.le_trans (Nat.le_trans hn1.ext.size hn3.ext.size) hp5.only.size) hx7.size) q7_3l)))).only hp134.only (ni_lt (Nat.lt_of_lt_of_le hb.lt (Nat.le_trans (Nat.le_trans (Nat.le_trans (Nat.le_trans hn1.ext.size hn3.ext.size) hp5.only.size) hx7.size) q7_3l)))).only hp137.only (ni_lt (Nat.lt_of_lt_of_le hb.lt (Nat.le_trans (Nat.le_trans (Nat.le_trans (Nat.le_trans hn1.ext.size hn3.ext.size) hp5.only.size) hx7.size) q7_3l)))).ext hx142).only ha144.only (box_row ho hnil hb))
   refine LO_dos (i := 10) rfl (D_store (us := [v143]) (show _ = some 1 by kernel_rfl) rfl rfl (row_cells ha144.own.rows) (by intro u_ hu_; simp only [List.mem_cons, List.not_mem_nil, or_false] at hu_; rcases hu_ with rfl <;> first | rfl | exact row_cell1 ha144.own.rows) hc146 (by simp)) rfl rfl ?_
   rintro h79 hp147
   have hc149 := (hc145.only hp147.only (ni_gt (Nat.lt_of_lt_of_le hb.lt (Nat.le_trans (Nat.le_trans (Nat.le_trans (Nat.le_trans hn1.ext.size hn3.ext.size) hp5.only.size) hx7.size) q7_3l))))
   refine ⟨hc149, ?_⟩
   have hk148 : Blk h79 b [v143, .map (some m1), .map (some m2)] := hp147.blk
   refine LH_done (by kernel_rfl) ?_
   refine X_then ?_
   refine W_sub _ (tk1 4) ?_
   refine Wr ?_
   refine Av ?_
   refine L_nil (X_then (W_ret ?_))
   refine X_ret1 rfl rfl ?_
   have ob5 : aerr L D F k p m tg z dat = 0 := by unfold aerr; rw [if_neg e, if_neg sz]
   have hc150 := (((((((((((((((hD.ext hn1.ext).ext hn3.ext).only hp5.only (ni_lt (Nat.lt_of_lt_of_le hD.lt hn1.ext.size))).ext hx7).ext hx26).only hp27.only (ni_lt (Nat.lt_of_lt_of_le hD.lt (Nat.le_trans (Nat.le_trans me8 hx7.size) q7_3l)))).ext hx125).only hp126.only (ni_lt (Nat.lt_of_lt_of_le hD.lt (Nat.le_trans me10 q15_1l)))).only hp128.only (ni_lt (Nat.lt_of_lt_of_le hD.lt (Nat.le_trans (Nat.le_trans me8 hx7.size) q7_3l)))).only hp131.only (ni_lt (Nat.lt_of_lt_of_le hD.lt (Nat.le_trans (Nat.le_trans me8 hx7.size) q7_3l)))).only hp134.only (ni_lt (Nat.lt_of_lt_of_le hD.lt (Nat.le_trans (Nat.le_trans me8 hx7.size) q7_3l)))).only hp137.only (ni_lt (Nat.lt_of_lt_of_le hD.lt (Nat.le_trans (Nat.le_trans me8 hx7.size) q7_3l)))).ext hx142).only ha144.only (map_row ho hD)).only hp147.only (fun hb_ => hne.1 (List.mem_singleton.1 hb_).symm))
   have hc151 := (((((((((((((((hF.ext hn1.ext).ext hn3.ext).only hp5.only (ni_lt (Nat.lt_of_lt_of_le hF.lt hn1.ext.size))).ext hx7).ext hx26).only hp27.only (ni_lt (Nat.lt_of_lt_of_le hF.lt (Nat.le_trans (Nat.le_trans me8 hx7.size) q7_3l)))).ext hx125).only hp126.only (ni_lt (Nat.lt_of_lt_of_le hF.lt (Nat.le_trans me10 q15_1l)))).only hp128.only (ni_lt (Nat.lt_of_lt_of_le hF.lt (Nat.le_trans (Nat.le_trans me8 hx7.size) q7_3l)))).only hp131.only (ni_lt (Nat.lt_of_lt_of_le hF.lt (Nat.le_trans (Nat.le_trans me8 hx7.size) q7_3l)))).only hp134.only (ni_lt (Nat.lt_of_lt_of_le hF.lt (Nat.le_trans (Nat.le_trans me8 hx7.size) q7_3l)))).only hp137.only (ni_lt (Nat.lt_of_lt_of_le hF.lt (Nat.le_trans (Nat.le_trans me8 hx7.size) q7_3l)))).ext hx142).only ha144.only (map_row ho hF)).only hp147.only (fun hb_ => hne.2.1 (List.mem_singleton.1 hb_).symm))
   exact ⟨by rw [ob5], .inr ⟨ob5, (Only.trans (Only.trans (Only.trans (Only.trans (Only.trans (Only.trans (Only.trans (Only.trans (Only.trans (Only.trans (Only.trans (Only.trans (Only.trans (Only.trans (Only.trans (Only.refl _ _) hn1.ext (fun _ hb_ => by cases hb_)) hn3.ext (fun _ hb_ => by cases hb_)) hp5.only (fun b_ hb_ => .inr (by rw [List.mem_singleton.1 hb_]; exact hn1.ext.size))) hx7 (fun _ hb_ => by cases hb_)) hx26 (fun _ hb_ => by cases hb_)) hp27.only (fun b_ hb_ => .inr (by rw [List.mem_singleton.1 hb_]; exact (Nat.le_trans (Nat.le_trans me8 hx7.size) q7_3l)))) hx125 (fun _ hb_ => by cases hb_)) hp126.only (fun b_ hb_ => .inr (by rw [List.mem_singleton.1 hb_]; exact (Nat.le_trans me10 q15_1l)))) hp128.only (fun b_ hb_ => .inr (by rw [List.mem_singleton.1 hb_]; exact (Nat.le_trans (Nat.le_trans me8 hx7.size) q7_3l)))) hp131.only (fun b_ hb_ => .inr (by rw [List.mem_singleton.1 hb_]; exact (Nat.le_trans (Nat.le_trans me8 hx7.size) q7_3l)))) hp134.only (fun b_ hb_ => .inr (by rw [List.mem_singleton.1 hb_]; exact (Nat.le_trans (Nat.le_trans me8 hx7.size) q7_3l)))) hp137.only (fun b_ hb_ => .inr (by rw [List.mem_singleton.1 hb_]; exact (Nat.le_trans (Nat.le_trans me8 hx7.size) q7_3l)))) hx142 (fun _ hb_ => by cases hb_)) ha144.only (fun b_ hb_ => .inl (List.mem_append_right _ hb_))) hp147.only (fun b_ hb_ => .inl (by rw [List.mem_singleton.1 hb_]; simp))), bst_of (.inl k3) (bst_new ha144.own ob1 ob2 ob3 hnil ha144.only hc146 (row_noint ho) hp147.only hk148 (SetK.congr hc150 (by unfold adir; rw [if_neg k0])) (MapA.congr hc151 (by unfold afil; rw [if_neg k1]))) (by unfold anod; rw [if_neg k1, if_pos k3])⟩⟩
  refine LO_mks (i := 6) rfl (M_litr (S := nodS) (l := ([⟨(1 : Int), p, m, [], ((at_nod L ((aget F tg).getD (0 : Int)).toNat).dv), (at_nod L ((aget F tg).getD (0 : Int)).toNat).data, (at_nod L ((aget F tg).getD (0 : Int)).toNat).cls⟩] : List Nod)) (cells := [.int .i64 1, str p, .int .i64 (m), str [], ((at_nod L ((aget F tg).getD (0 : Int)).toNat).dv), .int .i64 ((at_nod L ((aget F tg).getD (0 : Int)).toNat).cls)]) (pv := [(0, .agg #[.int .i64 1, str p, .int .i64 (m), str [], ((at_nod L ((aget F tg).getD (0 : Int)).toNat).dv), .int .i64 ((at_nod L ((aget F tg).getD (0 : Int)).toNat).cls)])]) (E := 48) (evp (is := [0]) (os := [.tmp 93]) (vs := [.agg #[.int .i64 1, str p, .int .i64 (m), str [], ((at_nod L ((aget F tg).getD (0 : Int)).toNat).dv), .int .i64 ((at_nod L ((aget F tg).getD (0 : Int)).toNat).cls)]]) rfl rfl) rfl rfl (fun _ => by kernel_rfl) (by simp only [List.mem_cons, List.not_mem_nil, or_false, forall_eq_or_imp, forall_eq]; exact (show Bytes _ ((at_nod L ((aget F tg).getD (0 : Int)).toNat).dv) ((at_nod L ((aget F tg).getD (0 : Int)).toNat).data) from (ho.rows.ext (((((((((((hn1.ext.trans hn3.ext).then' hp5.only (by simp) hn1.ext.size).trans hx7).trans hx26).then' hp27.only (by simp) (Nat.le_trans (Nat.le_trans (Nat.le_trans (Nat.le_trans hn1.ext.size hn3.ext.size) hp5.only.size) hx7.size) q7_3l)).trans hx125).then' hp126.only (by simp) (Nat.le_trans (Nat.le_trans (Nat.le_trans (Nat.le_trans (Nat.le_trans (Nat.le_trans hn1.ext.size hn3.ext.size) hp5.only.size) hx7.size) hx26.size) hp27.only.size) q15_1l)).then' hp128.only (by simp) (Nat.le_trans (Nat.le_trans (Nat.le_trans (Nat.le_trans hn1.ext.size hn3.ext.size) hp5.only.size) hx7.size) q7_3l)).then' hp131.only (by simp) (Nat.le_trans (Nat.le_trans (Nat.le_trans (Nat.le_trans hn1.ext.size hn3.ext.size) hp5.only.size) hx7.size) q7_3l)).then' hp134.only (by simp) (Nat.le_trans (Nat.le_trans (Nat.le_trans (Nat.le_trans hn1.ext.size hn3.ext.size) hp5.only.size) hx7.size) q7_3l)).then' hp137.only (by simp) (Nat.le_trans (Nat.le_trans (Nat.le_trans (Nat.le_trans hn1.ext.size hn3.ext.size) hp5.only.size) hx7.size) q7_3l))).okat (k := ((aget F tg).getD (0 : Int)).toNat) (by omega)))) rfl rfl rfl ?_
  rintro v152 h80 ⟨ho153, hx154⟩
  refine ⟨(hk138.ext hx154), ?_⟩
  refine LH_one (i := 4) (by kernel_rfl) ?_
  have me16 := Nat.le_trans (Nat.le_trans (Nat.le_trans me8 hx7.size) hx26.size) hp27.only.size
  have me17 := (me9.trans hx125).then' hp126.only (by simp) (Nat.le_trans me16 q15_1l)
  have me18 := me17.then' hp128.only (by simp) (Nat.le_trans (Nat.le_trans me8 hx7.size) q7_3l)
  have me19 := me18.then' hp131.only (by simp) (Nat.le_trans (Nat.le_trans me8 hx7.size) q7_3l)
  have me20 := me19.then' hp134.only (by simp) (Nat.le_trans (Nat.le_trans me8 hx7.size) q7_3l)
  have me21 := me20.then' hp137.only (by simp) (Nat.le_trans (Nat.le_trans me8 hx7.size) q7_3l)
  refine LO_yld (i := 4) rfl (Y_ldblk Tryd.underlying32 rfl rfl (hb.ext (me21.trans hx154)) rfl) rfl rfl rfl (hk138.ext hx154) ?_
  refine LH_one (i := 7) (by kernel_rfl) ?_
  have ob1 : ∀ x ∈ L, Off h80 x.dv x.data := fun x q => (hof x q).ext ((((((((((((hn1.ext.trans hn3.ext).then' hp5.only (by simp) hn1.ext.size).trans hx7).trans hx26).then' hp27.only (by simp) (Nat.le_trans (Nat.le_trans (Nat.le_trans (Nat.le_trans hn1.ext.size hn3.ext.size) hp5.only.size) hx7.size) q7_3l)).trans hx125).then' hp126.only (by simp) (Nat.le_trans (Nat.le_trans (Nat.le_trans (Nat.le_trans (Nat.le_trans (Nat.le_trans hn1.ext.size hn3.ext.size) hp5.only.size) hx7.size) hx26.size) hp27.only.size) q15_1l)).then' hp128.only (by simp) (Nat.le_trans (Nat.le_trans (Nat.le_trans (Nat.le_trans hn1.ext.size hn3.ext.size) hp5.only.size) hx7.size) q7_3l)).then' hp131.only (by simp) (Nat.le_trans (Nat.le_trans (Nat.le_trans (Nat.le_trans hn1.ext.size hn3.ext.size) hp5.only.size) hx7.size) q7_3l)).then' hp134.only (by simp) (Nat.le_trans (Nat.le_trans (Nat.le_trans (Nat.le_trans hn1.ext.size hn3.ext.size) hp5.only.size) hx7.size) q7_3l)).then' hp137.only (by simp) (Nat.le_trans (Nat.le_trans (Nat.le_trans (Nat.le_trans hn1.ext.size hn3.ext.size) hp5.only.size) hx7.size) q7_3l)).trans hx154)
  have ob2 := (hof _ (can_mem hi3.2)).ext ((((((((((((hn1.ext.trans hn3.ext).then' hp5.only (by simp) hn1.ext.size).trans hx7).trans hx26).then' hp27.only (by simp) (Nat.le_trans (Nat.le_trans (Nat.le_trans (Nat.le_trans hn1.ext.size hn3.ext.size) hp5.only.size) hx7.size) q7_3l)).trans hx125).then' hp126.only (by simp) (Nat.le_trans (Nat.le_trans (Nat.le_trans (Nat.le_trans (Nat.le_trans (Nat.le_trans hn1.ext.size hn3.ext.size) hp5.only.size) hx7.size) hx26.size) hp27.only.size) q15_1l)).then' hp128.only (by simp) (Nat.le_trans (Nat.le_trans (Nat.le_trans (Nat.le_trans hn1.ext.size hn3.ext.size) hp5.only.size) hx7.size) q7_3l)).then' hp131.only (by simp) (Nat.le_trans (Nat.le_trans (Nat.le_trans (Nat.le_trans hn1.ext.size hn3.ext.size) hp5.only.size) hx7.size) q7_3l)).then' hp134.only (by simp) (Nat.le_trans (Nat.le_trans (Nat.le_trans (Nat.le_trans hn1.ext.size hn3.ext.size) hp5.only.size) hx7.size) q7_3l)).then' hp137.only (by simp) (Nat.le_trans (Nat.le_trans (Nat.le_trans (Nat.le_trans hn1.ext.size hn3.ext.size) hp5.only.size) hx7.size) q7_3l)).trans hx154)
  have ob3 := (ho.ext ((((((((((((hn1.ext.trans hn3.ext).then' hp5.only (by simp) hn1.ext.size).trans hx7).trans hx26).then' hp27.only (by simp) (Nat.le_trans (Nat.le_trans (Nat.le_trans (Nat.le_trans hn1.ext.size hn3.ext.size) hp5.only.size) hx7.size) q7_3l)).trans hx125).then' hp126.only (by simp) (Nat.le_trans (Nat.le_trans (Nat.le_trans (Nat.le_trans (Nat.le_trans (Nat.le_trans hn1.ext.size hn3.ext.size) hp5.only.size) hx7.size) hx26.size) hp27.only.size) q15_1l)).then' hp128.only (by simp) (Nat.le_trans (Nat.le_trans (Nat.le_trans (Nat.le_trans hn1.ext.size hn3.ext.size) hp5.only.size) hx7.size) q7_3l)).then' hp131.only (by simp) (Nat.le_trans (Nat.le_trans (Nat.le_trans (Nat.le_trans hn1.ext.size hn3.ext.size) hp5.only.size) hx7.size) q7_3l)).then' hp134.only (by simp) (Nat.le_trans (Nat.le_trans (Nat.le_trans (Nat.le_trans hn1.ext.size hn3.ext.size) hp5.only.size) hx7.size) q7_3l)).then' hp137.only (by simp) (Nat.le_trans (Nat.le_trans (Nat.le_trans (Nat.le_trans hn1.ext.size hn3.ext.size) hp5.only.size) hx7.size) q7_3l)).trans hx154))
  refine LO_mks (i := 7) rfl (M_apprG (z := 6) (bytes := 80) (z0 := (.agg #[.int .i64 0, str [], .int .i64 0, str [], .slice none 0 0, .int .i64 0])) Tryd.underlying32 (by unfold elemRow; kernel_rfl) rfl rfl (by decide) rfl rfl (ho.ext ((((((((((((hn1.ext.trans hn3.ext).then' hp5.only (by simp) hn1.ext.size).trans hx7).trans hx26).then' hp27.only (by simp) (Nat.le_trans (Nat.le_trans (Nat.le_trans (Nat.le_trans hn1.ext.size hn3.ext.size) hp5.only.size) hx7.size) q7_3l)).trans hx125).then' hp126.only (by simp) (Nat.le_trans (Nat.le_trans (Nat.le_trans (Nat.le_trans (Nat.le_trans (Nat.le_trans hn1.ext.size hn3.ext.size) hp5.only.size) hx7.size) hx26.size) hp27.only.size) q15_1l)).then' hp128.only (by simp) (Nat.le_trans (Nat.le_trans (Nat.le_trans (Nat.le_trans hn1.ext.size hn3.ext.size) hp5.only.size) hx7.size) q7_3l)).then' hp131.only (by simp) (Nat.le_trans (Nat.le_trans (Nat.le_trans (Nat.le_trans hn1.ext.size hn3.ext.size) hp5.only.size) hx7.size) q7_3l)).then' hp134.only (by simp) (Nat.le_trans (Nat.le_trans (Nat.le_trans (Nat.le_trans hn1.ext.size hn3.ext.size) hp5.only.size) hx7.size) q7_3l)).then' hp137.only (by simp) (Nat.le_trans (Nat.le_trans (Nat.le_trans (Nat.le_trans hn1.ext.size hn3.ext.size) hp5.only.size) hx7.size) q7_3l)).trans hx154)) ho153.rows (Nat.le_trans (Nat.le_trans (Nat.le_trans (Nat.le_trans (Nat.le_trans (Nat.le_trans (Nat.le_trans (Nat.le_trans (Nat.le_trans (Nat.le_trans (Nat.le_trans (Nat.le_trans (Nat.le_trans hl.size hn1.ext.size) hn3.ext.size) hp5.only.size) hx7.size) hx26.size) hp27.only.size) hx125.size) hp126.only.size) hp128.only.size) hp131.only.size) hp134.only.size) hp137.only.size) hx154.size) (by first | (simp; omega) | (simp; done)) (fun h9 y9 hge x9 hx9 => (List.mem_append.1 hx9).elim (fun q => ((ob1 x9 q).row ob3 hnil y9).1) (fun q => by rw [List.mem_singleton.1 q]; exact (Off.row ob2 ob3 hnil y9).1))) rfl rfl rfl ?_
  rintro v155 h81 ⟨ha156, ha156l⟩
  have hc157 := ((hk138.ext hx154).only ha156.only (fun hb_ => Nat.lt_irrefl _ (Nat.lt_of_lt_of_le (Own.lt ho.1 _ (by simpa using hb_)).2 (Nat.le_trans (Nat.le_trans (Nat.le_trans (Nat.le_trans hn1.ext.size hn3.ext.size) hp5.only.size) hx7.size) q7_3l))))
  refine ⟨hc157, ?_⟩
  refine LH_take (i := 8) rfl (fun h_ hI_ => Y_nilCheck rfl) rfl rfl rfl (by kernel_rfl) (by kernel_rfl) (by kernel_rfl) (fun _ _ _ => by rintro ⟨_, _, h_, _⟩; cases h_) hc157 ?_
  refine LH_take (i := 9) rfl (fun h_ hI_ => Y_fieldAddr (off := 0) (by kernel_rfl) rfl rfl) rfl rfl rfl (by kernel_rfl) (by kernel_rfl) (by kernel_rfl) (fun _ _ _ => by rintro ⟨_, _, h_, _⟩; cases h_) hc157 ?_
  refine LH_one (i := 10) (by kernel_rfl) ?_
  have hc158 := ((((((((((((((hb.ext hn1.ext).ext hn3.ext).only hp5.only (ni_lt (Nat.lt_of_lt_of_le hb.lt hn1.ext.size))).ext hx7).ext hx26).only hp27.only (ni_lt (Nat.lt_of_lt_of_le hb.lt (Nat.le_trans (Nat.le_trans (Nat.le_trans (Nat.le_trans hn1.ext.size hn3.ext.size) hp5.only.size) hx7.size) q7_3l)))).ext hx125).only hp126.only (ni_lt (Nat.lt_of_lt_of_le hb.lt (Nat.le_trans (Nat.le_trans (Nat.le_trans (Nat.le_trans (Nat.le_trans (Nat.le_trans hn1.ext.size hn3.ext.size) hp5.only.size) hx7.size) hx26.size) hp27.only.size) q15_1l)))).only hp128.only (ni_lt (Nat.lt_of_lt_of_le hb.lt (Nat.le_trans (Nat.le_trans (Nat.le_trans (Nat.le_trans hn1.ext.size hn3.ext.size) hp5.only.size) hx7.size) q7_3l)))).only hp131.only (ni_lt (Nat.lt_of_lt_of_le hb.lt (Nat.le_trans (Nat.le_trans (Nat.le_trans (Nat.le_trans hn1.ext.size hn3.ext.size) hp5.only.size) hx7.size) q7_3l)))).only hp134.only (ni_lt (Nat.lt_of_lt_of_le hb.lt (Nat.le_trans (Nat.le_trans (Nat.le_trans (Nat.le_trans hn1.ext.size hn3.ext.size) hp5.only.size) hx7.size) q7_3l)))).only hp137.only (ni_lt (Nat.lt_of_lt_of_le hb.lt (Nat.le_trans (Nat.le_trans (Nat.le_trans (Nat.le_trans hn1.ext.size hn3.ext.size) hp5.only.size) hx7.size) q7_3l)))).ext hx154).only ha156.only (box_row ho hnil hb))
  refine LO_dos (i := 10) rfl (D_store (us := [v155]) (show _ = some 1 by kernel_rfl) rfl rfl (row_cells ha156.own.rows) (by intro u_ hu_; simp only [List.mem_cons, List.not_mem_nil, or_false] at hu_; rcases hu_ with rfl <;> first | rfl | exact row_cell1 ha156.own.rows) hc158 (by simp)) rfl rfl ?_
  rintro h82 hp159
  have hc161 := (hc157.only hp159.only (ni_gt (Nat.lt_of_lt_of_le hb.lt (Nat.le_trans (Nat.le_trans (Nat.le_trans (Nat.le_trans hn1.ext.size hn3.ext.size) hp5.only.size) hx7.size) q7_3l))))
  refine ⟨hc161, ?_⟩
  have hk160 : Blk h82 b [v155, .map (some m1), .map (some m2)] := hp159.blk
  refine LH_done (by kernel_rfl) ?_
  refine X_then ?_
  refine W_sub _ (tk1 4) ?_
  refine Wr ?_
  refine Av ?_
  refine L_nil (X_then (W_ret ?_))
  refine X_ret1 rfl rfl ?_
  have ob5 : aerr L D F k p m tg z dat = 0 := by unfold aerr; rw [if_neg e, if_neg sz]
  have hc162 := (((((((((((((((hD.ext hn1.ext).ext hn3.ext).only hp5.only (ni_lt (Nat.lt_of_lt_of_le hD.lt hn1.ext.size))).ext hx7).ext hx26).only hp27.only (ni_lt (Nat.lt_of_lt_of_le hD.lt (Nat.le_trans (Nat.le_trans me8 hx7.size) q7_3l)))).ext hx125).only hp126.only (ni_lt (Nat.lt_of_lt_of_le hD.lt (Nat.le_trans me16 q15_1l)))).only hp128.only (ni_lt (Nat.lt_of_lt_of_le hD.lt (Nat.le_trans (Nat.le_trans me8 hx7.size) q7_3l)))).only hp131.only (ni_lt (Nat.lt_of_lt_of_le hD.lt (Nat.le_trans (Nat.le_trans me8 hx7.size) q7_3l)))).only hp134.only (ni_lt (Nat.lt_of_lt_of_le hD.lt (Nat.le_trans (Nat.le_trans me8 hx7.size) q7_3l)))).only hp137.only (ni_lt (Nat.lt_of_lt_of_le hD.lt (Nat.le_trans (Nat.le_trans me8 hx7.size) q7_3l)))).ext hx154).only ha156.only (map_row ho hD)).only hp159.only (fun hb_ => hne.1 (List.mem_singleton.1 hb_).symm))
  have hc163 := (((((((((((((((hF.ext hn1.ext).ext hn3.ext).only hp5.only (ni_lt (Nat.lt_of_lt_of_le hF.lt hn1.ext.size))).ext hx7).ext hx26).only hp27.only (ni_lt (Nat.lt_of_lt_of_le hF.lt (Nat.le_trans (Nat.le_trans me8 hx7.size) q7_3l)))).ext hx125).only hp126.only (ni_lt (Nat.lt_of_lt_of_le hF.lt (Nat.le_trans me16 q15_1l)))).only hp128.only (ni_lt (Nat.lt_of_lt_of_le hF.lt (Nat.le_trans (Nat.le_trans me8 hx7.size) q7_3l)))).only hp131.only (ni_lt (Nat.lt_of_lt_of_le hF.lt (Nat.le_trans (Nat.le_trans me8 hx7.size) q7_3l)))).only hp134.only (ni_lt (Nat.lt_of_lt_of_le hF.lt (Nat.le_trans (Nat.le_trans me8 hx7.size) q7_3l)))).only hp137.only (ni_lt (Nat.lt_of_lt_of_le hF.lt (Nat.le_trans (Nat.le_trans me8 hx7.size) q7_3l)))).ext hx154).only ha156.only (map_row ho hF)).only hp159.only (fun hb_ => hne.2.1 (List.mem_singleton.1 hb_).symm))
  exact ⟨by rw [ob5], .inr ⟨ob5, (Only.trans (Only.trans (Only.trans (Only.trans (Only.trans (Only.trans (Only.trans (Only.trans (Only.trans (Only.trans (Only.trans (Only.trans (Only.trans (Only.trans (Only.trans (Only.refl _ _) hn1.ext (fun _ hb_ => by cases hb_)) hn3.ext (fun _ hb_ => by cases hb_)) hp5.only (fun b_ hb_ => .inr (by rw [List.mem_singleton.1 hb_]; exact hn1.ext.size))) hx7 (fun _ hb_ => by cases hb_)) hx26 (fun _ hb_ => by cases hb_)) hp27.only (fun b_ hb_ => .inr (by rw [List.mem_singleton.1 hb_]; exact (Nat.le_trans (Nat.le_trans me8 hx7.size) q7_3l)))) hx125 (fun _ hb_ => by cases hb_)) hp126.only (fun b_ hb_ => .inr (by rw [List.mem_singleton.1 hb_]; exact (Nat.le_trans me16 q15_1l)))) hp128.only (fun b_ hb_ => .inr (by rw [List.mem_singleton.1 hb_]; exact (Nat.le_trans (Nat.le_trans me8 hx7.size) q7_3l)))) hp131.only (fun b_ hb_ => .inr (by rw [List.mem_singleton.1 hb_]; exact (Nat.le_trans (Nat.le_trans me8 hx7.size) q7_3l)))) hp134.only (fun b_ hb_ => .inr (by rw [List.mem_singleton.1 hb_]; exact (Nat.le_trans (Nat.le_trans me8 hx7.size) q7_3l)))) hp137.only (fun b_ hb_ => .inr (by rw [List.mem_singleton.1 hb_]; exact (Nat.le_trans (Nat.le_trans me8 hx7.size) q7_3l)))) hx154 (fun _ hb_ => by cases hb_)) ha156.only (fun b_ hb_ => .inl (List.mem_append_right _ hb_))) hp159.only (fun b_ hb_ => .inl (by rw [List.mem_singleton.1 hb_]; simp))), bst_of (.inl k3) (bst_new ha156.own ob1 ob2 ob3 hnil ha156.only hc158 (row_noint ho) hp159.only hk160 (SetK.congr hc162 (by unfold adir; rw [if_neg k0])) (MapA.congr hc163 (by unfold afil; rw [if_neg k1]))) (by unfold anod; rw [if_neg k1, if_pos k3])⟩⟩
 refine W_skip (X_block (X_then ?_))
 refine W_sub _ (tk3 7 4 0) ?_
 refine W_seq ?_
 refine W_held (fun h' => Blk h' r7_3 [.int .i64 (k), str p, .int .i64 (m), str tg, r7_2, .int .i64 0]) 11 rfl (by kernel_rfl) ?_
 refine LH_take (i := 0) rfl (fun h_ hI_ => Y_move rfl) rfl rfl rfl (by kernel_rfl) (by kernel_rfl) (by kernel_rfl) (fun _ _ _ => by rintro ⟨_, _, h_, _⟩; cases h_) hk28 ?_
 refine LH_take (i := 1) rfl (fun h_ hI_ => Y_move rfl) rfl rfl rfl (by kernel_rfl) (by kernel_rfl) (by kernel_rfl) (fun _ _ _ => by rintro ⟨_, _, h_, _⟩; cases h_) hk28 ?_
 refine LH_take (i := 2) rfl (fun h_ hI_ => Y_nilCheck rfl) rfl rfl rfl (by kernel_rfl) (by kernel_rfl) (by kernel_rfl) (fun _ _ _ => by rintro ⟨_, _, h_, _⟩; cases h_) hk28 ?_
 refine LH_take (i := 3) rfl (fun h_ hI_ => Y_fieldAddr (off := 0) (by kernel_rfl) rfl rfl) rfl rfl rfl (by kernel_rfl) (by kernel_rfl) (by kernel_rfl) (fun _ _ _ => by rintro ⟨_, _, h_, _⟩; cases h_) hk28 ?_
 refine LH_take (i := 5) rfl (fun h_ hI_ => Y_ldbox (us := [.int .i64 (k), str p, .int .i64 (m), str tg, r7_2, .int .i64 0]) Tryd.underlying48 rfl (show _ = some 6 by kernel_rfl) rfl hI_ rfl) rfl rfl rfl (by kernel_rfl) (by kernel_rfl) (by kernel_rfl) (fun _ _ _ => by rintro ⟨_, _, h_, _⟩; cases h_) hk28 ?_
 refine LH_two (i := 4) (j := 6) (by kernel_rfl) ?_ ?_
 ·have me22 := Nat.le_trans (Nat.le_trans hn1.ext.size hn3.ext.size) hp5.only.size
  have me23 := ((me1.trans hx7).trans hx26).then' hp27.only (by simp) (Nat.le_trans (Nat.le_trans me22 hx7.size) q7_3l)
  refine LO_yld (i := 4) rfl (Y_ldblk Tryd.underlying32 rfl rfl (hb.ext me23) rfl) rfl rfl rfl hk28 ?_
  refine LH_one (i := 6) (by kernel_rfl) ?_
  refine LO_mks (i := 6) rfl (M_litr (S := nodS) (l := ([⟨k, p, m, tg, r7_2, dat, (0 : Int)⟩] : List Nod)) (cells := [.int .i64 (k), str p, .int .i64 (m), str tg, r7_2, .int .i64 0]) (pv := [(0, .agg #[.int .i64 (k), str p, .int .i64 (m), str tg, r7_2, .int .i64 0])]) (E := 48) (evp (is := [0]) (os := [.tmp 93]) (vs := [.agg #[.int .i64 (k), str p, .int .i64 (m), str tg, r7_2, .int .i64 0]]) rfl rfl) rfl rfl (fun _ => by kernel_rfl) (by simp only [List.mem_cons, List.not_mem_nil, or_false, forall_eq_or_imp, forall_eq]; exact ((Off.of q7_2).box q7_3 rfl hp27.only).1)) rfl rfl rfl ?_
  rintro v164 h83 ⟨ho165, hx166⟩
  refine ⟨(hk28.ext hx166), ?_⟩
  refine LH_one (i := 7) (by kernel_rfl) ?_
  have of9 := (fun d_ hd_ => Nat.le_trans (Nat.le_trans (Nat.le_trans (Nat.le_trans hn1.ext.size hn3.ext.size) hp5.only.size) hx7.size) (Own.lt q7_2 d_ (blk2_ofO hd_)).1)
  have ob1 : ∀ x ∈ L, Off h83 x.dv x.data := fun x q => (hof x q).ext ((((((hn1.ext.trans hn3.ext).then' hp5.only (by simp) hn1.ext.size).trans hx7).trans hx26).then' hp27.only (by simp) (Nat.le_trans (Nat.le_trans (Nat.le_trans (Nat.le_trans hn1.ext.size hn3.ext.size) hp5.only.size) hx7.size) q7_3l)).trans hx166)
  have ob2 := (((Off.of q7_2).box q7_3 rfl hp27.only).ext hx166)
  have ob3 := (ho.ext ((((((hn1.ext.trans hn3.ext).then' hp5.only (by simp) hn1.ext.size).trans hx7).trans hx26).then' hp27.only (by simp) (Nat.le_trans (Nat.le_trans (Nat.le_trans (Nat.le_trans hn1.ext.size hn3.ext.size) hp5.only.size) hx7.size) q7_3l)).trans hx166))
  refine LO_mks (i := 7) rfl (M_apprG (z := 6) (bytes := 80) (z0 := (.agg #[.int .i64 0, str [], .int .i64 0, str [], .slice none 0 0, .int .i64 0])) Tryd.underlying32 (by unfold elemRow; kernel_rfl) rfl rfl (by decide) rfl rfl (ho.ext ((((((hn1.ext.trans hn3.ext).then' hp5.only (by simp) hn1.ext.size).trans hx7).trans hx26).then' hp27.only (by simp) (Nat.le_trans (Nat.le_trans (Nat.le_trans (Nat.le_trans hn1.ext.size hn3.ext.size) hp5.only.size) hx7.size) q7_3l)).trans hx166)) ho165.rows (Nat.le_trans (Nat.le_trans (Nat.le_trans (Nat.le_trans (Nat.le_trans (Nat.le_trans (Nat.le_trans hl.size hn1.ext.size) hn3.ext.size) hp5.only.size) hx7.size) hx26.size) hp27.only.size) hx166.size) (by first | (simp; omega) | (simp; done)) (fun h9 y9 hge x9 hx9 => (List.mem_append.1 hx9).elim (fun q => ((ob1 x9 q).row ob3 hnil y9).1) (fun q => by rw [List.mem_singleton.1 q]; exact (Off.row ob2 ob3 hnil y9).1))) rfl rfl rfl ?_
  rintro v167 h84 ⟨ha168, ha168l⟩
  have hc169 := ((hk28.ext hx166).only ha168.only (fun hb_ => Nat.lt_irrefl _ (Nat.lt_of_lt_of_le (Own.lt ho.1 _ (by simpa using hb_)).2 (Nat.le_trans (Nat.le_trans (Nat.le_trans (Nat.le_trans hn1.ext.size hn3.ext.size) hp5.only.size) hx7.size) q7_3l))))
  refine ⟨hc169, ?_⟩
  refine LH_take (i := 8) rfl (fun h_ hI_ => Y_nilCheck rfl) rfl rfl rfl (by kernel_rfl) (by kernel_rfl) (by kernel_rfl) (fun _ _ _ => by rintro ⟨_, _, h_, _⟩; cases h_) hc169 ?_
  refine LH_take (i := 9) rfl (fun h_ hI_ => Y_fieldAddr (off := 0) (by kernel_rfl) rfl rfl) rfl rfl rfl (by kernel_rfl) (by kernel_rfl) (by kernel_rfl) (fun _ _ _ => by rintro ⟨_, _, h_, _⟩; cases h_) hc169 ?_
  refine LH_one (i := 10) (by kernel_rfl) ?_
  have hc170 := ((((((((hb.ext hn1.ext).ext hn3.ext).only hp5.only (ni_lt (Nat.lt_of_lt_of_le hb.lt hn1.ext.size))).ext hx7).ext hx26).only hp27.only (ni_lt (Nat.lt_of_lt_of_le hb.lt (Nat.le_trans (Nat.le_trans (Nat.le_trans (Nat.le_trans hn1.ext.size hn3.ext.size) hp5.only.size) hx7.size) q7_3l)))).ext hx166).only ha168.only (box_row ho hnil hb))
  refine LO_dos (i := 10) rfl (D_store (us := [v167]) (show _ = some 1 by kernel_rfl) rfl rfl (row_cells ha168.own.rows) (by intro u_ hu_; simp only [List.mem_cons, List.not_mem_nil, or_false] at hu_; rcases hu_ with rfl <;> first | rfl | exact row_cell1 ha168.own.rows) hc170 (by simp)) rfl rfl ?_
  rintro h85 hp171
  have hc173 := (hc169.only hp171.only (ni_gt (Nat.lt_of_lt_of_le hb.lt (Nat.le_trans (Nat.le_trans (Nat.le_trans (Nat.le_trans hn1.ext.size hn3.ext.size) hp5.only.size) hx7.size) q7_3l))))
  refine ⟨hc173, ?_⟩
  have hk172 : Blk h85 b [v167, .map (some m1), .map (some m2)] := hp171.blk
  refine LH_done (by kernel_rfl) ?_
  refine X_then ?_
  refine W_sub _ (tk1 4) ?_
  refine Wr ?_
  refine Av ?_
  refine L_nil (X_then (W_ret ?_))
  refine X_ret1 rfl rfl ?_
  have ob5 : aerr L D F k p m tg z dat = 0 := by unfold aerr; rw [if_neg e, if_neg sz]
  have hc174 := (((((((((hD.ext hn1.ext).ext hn3.ext).only hp5.only (ni_lt (Nat.lt_of_lt_of_le hD.lt hn1.ext.size))).ext hx7).ext hx26).only hp27.only (ni_lt (Nat.lt_of_lt_of_le hD.lt (Nat.le_trans (Nat.le_trans me22 hx7.size) q7_3l)))).ext hx166).only ha168.only (map_row ho hD)).only hp171.only (fun hb_ => hne.1 (List.mem_singleton.1 hb_).symm))
  have hc175 := (((((((((hF.ext hn1.ext).ext hn3.ext).only hp5.only (ni_lt (Nat.lt_of_lt_of_le hF.lt hn1.ext.size))).ext hx7).ext hx26).only hp27.only (ni_lt (Nat.lt_of_lt_of_le hF.lt (Nat.le_trans (Nat.le_trans me22 hx7.size) q7_3l)))).ext hx166).only ha168.only (map_row ho hF)).only hp171.only (fun hb_ => hne.2.1 (List.mem_singleton.1 hb_).symm))
  exact ⟨by rw [ob5], .inr ⟨ob5, (Only.trans (Only.trans (Only.trans (Only.trans (Only.trans (Only.trans (Only.trans (Only.trans (Only.trans (Only.refl _ _) hn1.ext (fun _ hb_ => by cases hb_)) hn3.ext (fun _ hb_ => by cases hb_)) hp5.only (fun b_ hb_ => .inr (by rw [List.mem_singleton.1 hb_]; exact hn1.ext.size))) hx7 (fun _ hb_ => by cases hb_)) hx26 (fun _ hb_ => by cases hb_)) hp27.only (fun b_ hb_ => .inr (by rw [List.mem_singleton.1 hb_]; exact (Nat.le_trans (Nat.le_trans me22 hx7.size) q7_3l)))) hx166 (fun _ hb_ => by cases hb_)) ha168.only (fun b_ hb_ => .inl (List.mem_append_right _ hb_))) hp171.only (fun b_ hb_ => .inl (by rw [List.mem_singleton.1 hb_]; simp))), bst_of (.inr of9) (bst_new ha168.own ob1 ob2 ob3 hnil ha168.only hc170 (row_noint ho) hp171.only hk172 (SetK.congr hc174 (by unfold adir; rw [if_neg k0])) (MapA.congr hc175 (by unfold afil; rw [if_neg k1]))) (by unfold anod; rw [if_neg k1, if_neg k3])⟩⟩
 refine LO_mks (i := 6) rfl (M_litr (S := nodS) (l := ([⟨k, p, m, tg, r7_2, dat, (0 : Int)⟩] : List Nod)) (cells := [.int .i64 (k), str p, .int .i64 (m), str tg, r7_2, .int .i64 0]) (pv := [(0, .agg #[.int .i64 (k), str p, .int .i64 (m), str tg, r7_2, .int .i64 0])]) (E := 48) (evp (is := [0]) (os := [.tmp 93]) (vs := [.agg #[.int .i64 (k), str p, .int .i64 (m), str tg, r7_2, .int .i64 0]]) rfl rfl) rfl rfl (fun _ => by kernel_rfl) (by simp only [List.mem_cons, List.not_mem_nil, or_false, forall_eq_or_imp, forall_eq]; exact ((Off.of q7_2).box q7_3 rfl hp27.only).1)) rfl rfl rfl ?_
 rintro v176 h86 ⟨ho177, hx178⟩
 refine ⟨(hk28.ext hx178), ?_⟩
 refine LH_one (i := 4) (by kernel_rfl) ?_
 have me24 := Nat.le_trans (Nat.le_trans hn1.ext.size hn3.ext.size) hp5.only.size
 have me25 := ((me1.trans hx7).trans hx26).then' hp27.only (by simp) (Nat.le_trans (Nat.le_trans me24 hx7.size) q7_3l)
 refine LO_yld (i := 4) rfl (Y_ldblk Tryd.underlying32 rfl rfl (hb.ext (me25.trans hx178)) rfl) rfl rfl rfl (hk28.ext hx178) ?_
 refine LH_one (i := 7) (by kernel_rfl) ?_
 have of9 := (fun d_ hd_ => Nat.le_trans (Nat.le_trans (Nat.le_trans (Nat.le_trans hn1.ext.size hn3.ext.size) hp5.only.size) hx7.size) (Own.lt q7_2 d_ (blk2_ofO hd_)).1)
 have ob1 : ∀ x ∈ L, Off h86 x.dv x.data := fun x q => (hof x q).ext ((((((hn1.ext.trans hn3.ext).then' hp5.only (by simp) hn1.ext.size).trans hx7).trans hx26).then' hp27.only (by simp) (Nat.le_trans (Nat.le_trans (Nat.le_trans (Nat.le_trans hn1.ext.size hn3.ext.size) hp5.only.size) hx7.size) q7_3l)).trans hx178)
 have ob2 := (((Off.of q7_2).box q7_3 rfl hp27.only).ext hx178)
 have ob3 := (ho.ext ((((((hn1.ext.trans hn3.ext).then' hp5.only (by simp) hn1.ext.size).trans hx7).trans hx26).then' hp27.only (by simp) (Nat.le_trans (Nat.le_trans (Nat.le_trans (Nat.le_trans hn1.ext.size hn3.ext.size) hp5.only.size) hx7.size) q7_3l)).trans hx178))
 refine LO_mks (i := 7) rfl (M_apprG (z := 6) (bytes := 80) (z0 := (.agg #[.int .i64 0, str [], .int .i64 0, str [], .slice none 0 0, .int .i64 0])) Tryd.underlying32 (by unfold elemRow; kernel_rfl) rfl rfl (by decide) rfl rfl (ho.ext ((((((hn1.ext.trans hn3.ext).then' hp5.only (by simp) hn1.ext.size).trans hx7).trans hx26).then' hp27.only (by simp) (Nat.le_trans (Nat.le_trans (Nat.le_trans (Nat.le_trans hn1.ext.size hn3.ext.size) hp5.only.size) hx7.size) q7_3l)).trans hx178)) ho177.rows (Nat.le_trans (Nat.le_trans (Nat.le_trans (Nat.le_trans (Nat.le_trans (Nat.le_trans (Nat.le_trans hl.size hn1.ext.size) hn3.ext.size) hp5.only.size) hx7.size) hx26.size) hp27.only.size) hx178.size) (by first | (simp; omega) | (simp; done)) (fun h9 y9 hge x9 hx9 => (List.mem_append.1 hx9).elim (fun q => ((ob1 x9 q).row ob3 hnil y9).1) (fun q => by rw [List.mem_singleton.1 q]; exact (Off.row ob2 ob3 hnil y9).1))) rfl rfl rfl ?_
 rintro v179 h87 ⟨ha180, ha180l⟩
 have hc181 := ((hk28.ext hx178).only ha180.only (fun hb_ => Nat.lt_irrefl _ (Nat.lt_of_lt_of_le (Own.lt ho.1 _ (by simpa using hb_)).2 (Nat.le_trans (Nat.le_trans (Nat.le_trans (Nat.le_trans hn1.ext.size hn3.ext.size) hp5.only.size) hx7.size) q7_3l))))
 refine ⟨hc181, ?_⟩
 refine LH_take (i := 8) rfl (fun h_ hI_ => Y_nilCheck rfl) rfl rfl rfl (by kernel_rfl) (by kernel_rfl) (by kernel_rfl) (fun _ _ _ => by rintro ⟨_, _, h_, _⟩; cases h_) hc181 ?_
 refine LH_take (i := 9) rfl (fun h_ hI_ => Y_fieldAddr (off := 0) (by kernel_rfl) rfl rfl) rfl rfl rfl (by kernel_rfl) (by kernel_rfl) (by kernel_rfl) (fun _ _ _ => by rintro ⟨_, _, h_, _⟩; cases h_) hc181 ?_
 refine LH_one (i := 10) (by kernel_rfl) ?_
 have hc182 := ((((((((hb.ext hn1.ext).ext hn3.ext).only hp5.only (ni_lt (Nat.lt_of_lt_of_le hb.lt hn1.ext.size))).ext hx7).ext hx26).only hp27.only (ni_lt (Nat.lt_of_lt_of_le hb.lt (Nat.le_trans (Nat.le_trans (Nat.le_trans (Nat.le_trans hn1.ext.size hn3.ext.size) hp5.only.size) hx7.size) q7_3l)))).ext hx178).only ha180.only (box_row ho hnil hb))
 refine LO_dos (i := 10) rfl (D_store (us := [v179]) (show _ = some 1 by kernel_rfl) rfl rfl (row_cells ha180.own.rows) (by intro u_ hu_; simp only [List.mem_cons, List.not_mem_nil, or_false] at hu_; rcases hu_ with rfl <;> first | rfl | exact row_cell1 ha180.own.rows) hc182 (by simp)) rfl rfl ?_
 rintro h88 hp183
 have hc185 := (hc181.only hp183.only (ni_gt (Nat.lt_of_lt_of_le hb.lt (Nat.le_trans (Nat.le_trans (Nat.le_trans (Nat.le_trans hn1.ext.size hn3.ext.size) hp5.only.size) hx7.size) q7_3l))))
 refine ⟨hc185, ?_⟩
 have hk184 : Blk h88 b [v179, .map (some m1), .map (some m2)] := hp183.blk
 refine LH_done (by kernel_rfl) ?_
 refine X_then ?_
 refine W_sub _ (tk1 4) ?_
 refine Wr ?_
 refine Av ?_
 refine L_nil (X_then (W_ret ?_))
 refine X_ret1 rfl rfl ?_
 have ob5 : aerr L D F k p m tg z dat = 0 := by unfold aerr; rw [if_neg e, if_neg sz]
 have hc186 := (((((((((hD.ext hn1.ext).ext hn3.ext).only hp5.only (ni_lt (Nat.lt_of_lt_of_le hD.lt hn1.ext.size))).ext hx7).ext hx26).only hp27.only (ni_lt (Nat.lt_of_lt_of_le hD.lt (Nat.le_trans (Nat.le_trans me24 hx7.size) q7_3l)))).ext hx178).only ha180.only (map_row ho hD)).only hp183.only (fun hb_ => hne.1 (List.mem_singleton.1 hb_).symm))
 have hc187 := (((((((((hF.ext hn1.ext).ext hn3.ext).only hp5.only (ni_lt (Nat.lt_of_lt_of_le hF.lt hn1.ext.size))).ext hx7).ext hx26).only hp27.only (ni_lt (Nat.lt_of_lt_of_le hF.lt (Nat.le_trans (Nat.le_trans me24 hx7.size) q7_3l)))).ext hx178).only ha180.only (map_row ho hF)).only hp183.only (fun hb_ => hne.2.1 (List.mem_singleton.1 hb_).symm))
 exact ⟨by rw [ob5], .inr ⟨ob5, (Only.trans (Only.trans (Only.trans (Only.trans (Only.trans (Only.trans (Only.trans (Only.trans (Only.trans (Only.refl _ _) hn1.ext (fun _ hb_ => by cases hb_)) hn3.ext (fun _ hb_ => by cases hb_)) hp5.only (fun b_ hb_ => .inr (by rw [List.mem_singleton.1 hb_]; exact hn1.ext.size))) hx7 (fun _ hb_ => by cases hb_)) hx26 (fun _ hb_ => by cases hb_)) hp27.only (fun b_ hb_ => .inr (by rw [List.mem_singleton.1 hb_]; exact (Nat.le_trans (Nat.le_trans me24 hx7.size) q7_3l)))) hx178 (fun _ hb_ => by cases hb_)) ha180.only (fun b_ hb_ => .inl (List.mem_append_right _ hb_))) hp183.only (fun b_ hb_ => .inl (by rw [List.mem_singleton.1 hb_]; simp))), bst_of (.inr of9) (bst_new ha180.own ob1 ob2 ob3 hnil ha180.only hc182 (row_noint ho) hp183.only hk184 (SetK.congr hc186 (by unfold adir; rw [if_neg k0])) (MapA.congr hc187 (by unfold afil; rw [if_neg k1]))) (by unfold anod; rw [if_neg k1, if_neg k3])⟩⟩
end Go.Xp
