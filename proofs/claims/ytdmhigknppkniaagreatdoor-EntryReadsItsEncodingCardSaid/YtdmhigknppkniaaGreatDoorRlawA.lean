/- Layer 12 (entry): the law EntryReadsItsEncoding. -/
import Derived.Test.YtdmhigknppkniaaGreatDoorNew
import Derived.Test.YtdmhigknppkniaaGreatDoorDco
import Derived.Test.YtdmhigknppkniaaGreatDoorRtL
import Derived.Test.YtdmhigknppkniaaGreatDoorStm
set_option linter.unusedSimpArgs false
set_option linter.unusedVariables false
set_option linter.unusedSectionVars false
namespace Go.Xp
open Go.Proofs

set_option maxRecDepth 100000 in
theorem lawEntryReads (h : Heap) (hG : Glb h) (hK : GlbK h) (hN : GlbN h) (hE : GlbE h) (hT : GlbT h) (hS : GlbS h) (v : Value) (D : List UInt8) (hb : Bytes h v D) (hl : D.length ≤ 140737488355328) : Cal Tryz.prog 5 #[v] h (fun v h' => v = .bool true ∧ Ext h h') := by
 refine Cal_enter (args := [v]) Tryz.func5 rfl rfl rfl (fun σ => ?_)
 refine Wa ?_
 refine Ln (Xt (Wq (Wq (Wg ?_))))
 refine Mv ?_
 refine Ly (Y_len Tryz.underlying22 rfl hb) ?_
 refine Ly (Y_gtr rfl rfl) ?_
 refine Nx ?_
 refine W_splitd rfl (fun g => ?_) (fun g => ?_)
 ·refine Wr ?_
  refine Lc (law12_alive _ hG hK hN hE hT) ?_
  rintro _ h1 ⟨rfl, hx1⟩
  refine Av ?_
  refine Ln (Xt (Wt (Xr ?_)))
  refine X_ret1 rfl rfl ?_
  exact ⟨rfl, hx1⟩
 refine Ws ?_
 have hl9 : D.length ≤ 20000 := by omega
 have hla : h.size ≤ (h).size := ((Ext.refl _) : Ext h h).size
 refine Wm ?_
 refine Ly (Y_build (v := .agg #[.slice none 0 0, .int .i64 (-1)]) (pv := [(1, .int .i64 (-1))]) (evp (is := [1]) (os := [.const (.int .i64 (-1))]) (vs := [.int .i64 (-1)]) rfl rfl) (fun _ => by kernel_rfl)) ?_
 refine Lc (source_New _ v D hb (.slice none 0 0) [] (Rows.nil _ _) (-1) (by omega) (by decide)) ?_
 rintro _ h2 ⟨sA, rfl, uNA, ux1⟩
 refine Lc (block_NewReader _ _ sA D (-1) uNA) ?_
 rintro _ h3 ⟨rA, rfl, uRA, ux2⟩
 refine An ?_
 refine Wu _ (tk3 3 2 0) ?_
 obtain ⟨la, ha, q1, uRA2⟩ : ∃ la ha, h.size ≤ la ∧ RdA la ha h3 rA sA D (-1) 0 0 := ⟨_, _, hla, uRA⟩
 have ugA : ∀ c ∈ [rA, sA], h.size ≤ c := fun c hc => nt q1 (uRA2.ge2 c hc)
 refine Wa ?_
 refine Ln (Xt (Wq (Wq (Wg ?_))))
 refine Mv ?_
 refine Ly (Y_len Tryz.underlying22 rfl (hb.ext (ux1.trans ux2))) ?_
 refine Ly (Y_quo rfl rfl (by omega) (by omega) (by omega)) ?_
 refine Lad ?_
 refine Mv ?_
 refine Ln (Xt (Wb ?_))
 refine W_loop (S := Nat × Nat) (fun (i, p) => [(22, .int .i64 (((D.length : Int) / 512) + 1)), (3, .pointer (some ⟨rA, 0, none⟩)), (0, v), (4, .int .i64 ((p : Int))), (23, .int .i64 ((i : Int)))]) (fun (i, p) h' => i ≤ D.length / 512 + 1 ∧ p ≤ D.length ∧ Ext h h' ∧ RdA la ha h' rA sA D (-1) p 0) (fun (i, p) => D.length / 512 + 1 - i) (0, 0) (tk5 22 3 0 4 23) ?_ ?_
 ·exact ⟨Nat.zero_le _, Nat.zero_le _, (ux1.trans ux2), uRA2⟩
 rintro ⟨i, p⟩ h4 ⟨hi, hp, hxL, uRA3⟩
 show W _ _ _ _ _ [(22, .int .i64 (((D.length : Int) / 512) + 1)), (3, .pointer (some ⟨rA, 0, none⟩)), (0, v), (4, .int .i64 ((p : Int))), (23, .int .i64 ((i : Int)))] _
 refine Wr ?_
 refine Ly (Y_lss rfl rfl) ?_
 refine Ln (Xt (Wq ?_))
 refine W_splitd rfl (fun c => ?_) (fun c => ?_)
 ·refine Wk (Xt (Wq (Wb (Wq (Wg ?_)))))
  refine Mv ?_
  refine Lc (entry_Decode _ la ha rA sA D (-1) p 0 uRA3 (by omega) (by decide) h hxL q1 hG hK hN hE hT hS) ?_
  rintro _ h5 ⟨rfl, uy, uRA4⟩
  refine Mv ?_
  refine Lx ?_
  refine Lx ?_
  refine Lx ?_
  refine L_mks (M_alloc (u := .agg #[.int .i64 0, str [], .int .i64 0, str [], .int .i64 0]) (by kernel_rfl)) rfl rfl rfl ?_
  rintro _ h6 ⟨rfl, hn2⟩
  have hk3 : Blk h6 h5.size [.int .i64 0, str [], .int .i64 0, str [], .int .i64 0] := hn2.blk
  refine Lds [.int .i64 ((dcd D (-1) p 0).k), str ((dcd D (-1) p 0).p), .int .i64 ((dcd D (-1) p 0).m), str ((dcd D (-1) p 0).tg), .int .i64 ((dcd D (-1) p 0).z)] hk3 ?_
  rintro h7 hp4
  have hk5 : Blk h7 h5.size [.int .i64 ((dcd D (-1) p 0).k), str ((dcd D (-1) p 0).p), .int .i64 ((dcd D (-1) p 0).m), str ((dcd D (-1) p 0).tg), .int .i64 ((dcd D (-1) p 0).z)] := hp4.blk
  refine A2 ?_
  refine Nx ?_
  refine Wu _ (tk8 7 6 5 22 3 0 4 23) ?_
  have hrg := dcd_rng (D := D) (P := p) (er := 0) hp
  refine Wq (Wq (Wg ?_))
  refine Mv ?_
  refine Ly (Y_neq rfl rfl) ?_
  refine Nx ?_
  refine W_splitd rfl (fun x => ?_) (fun x => ?_)
  ·refine Wr ?_
   have me1 := ((hxL.then' uy ugA (Nat.le_refl _)).trans hn2.ext).then' hp4.only (by simp) (nt hxL.size uy.size)
   refine Lc (law12_alive _ (hG.ext me1) (hK.ext me1) (hN.ext me1) (hE.ext me1) (hT.ext me1)) ?_
   rintro _ h8 ⟨rfl, hx6⟩
   refine M2 ?_
   refine Mv ?_
   refine Ly (Y_geq rfl rfl) ?_
   refine Ly (Y_pick_t rfl rfl) ?_
   refine Mv ?_
   refine L_known (d := 39) true rfl (by exact decide_eq_true (by exact hrg.1)) ?_
   refine M2 ?_
   refine Ly (Y_len Tryz.underlying22 rfl (hb.ext (me1.trans hx6))) ?_
   refine Ly (Y_leq rfl rfl) ?_
   refine Ly (Y_pick_t rfl rfl) ?_
   refine Mv ?_
   refine L_known (d := 45) true rfl (by exact decide_eq_true (by exact hrg.2.1)) ?_
   refine Mv ?_
   have me2 := (hn2.ext.then' hp4.only (by simp) (Nat.le_refl _)).trans hx6
   refine Lc (rd_Off (uRA4.ext me2)) ?_
   rintro _ h9 ⟨rfl, ux9⟩
   refine Mv ?_
   refine Ly (Y_len Tryz.underlying22 rfl (hb.ext ((me1.trans hx6).trans ux9))) ?_
   refine Ly (Y_leq rfl rfl) ?_
   refine Ly (Y_pick_t rfl rfl) ?_
   refine An ?_
   refine Wu _ (tk8 2 6 5 22 3 0 4 23) ?_
   refine Wt (Xr (Yr (Xr (Xr (Yr (Xr ?_))))))
   refine X_ret1 rfl rfl ?_
   exact ⟨congrArg Value.bool (decide_eq_true (by have := hrg.2.2; omega)), ((me1.trans hx6).trans ux9)⟩
  refine Ws ?_
  obtain ⟨b1, b2, b3, b4, b5, b6⟩ := dcd_back (D := D) (P := p) (er := 0) (Classical.not_not.1 x)
  have b7 := fcheck_lens b5
  have b8 := fcheck_size b5
  refine Wm ?_
  refine L_call (E_call (by kernel_rfl) rfl) (rd_Off (uRA4.ext (hn2.ext.then' hp4.only (by simp) (Nat.le_refl _)))) rfl rfl rfl ?_
  rintro _ h10 ⟨rfl, ux8⟩
  refine Av ?_
  refine Ln (Xt (Wq (Wg ?_)))
  refine Lg Tryz.underlying37 (hk5.ext ux8) ?_
  have me3 := ((hxL.then' uy ugA (Nat.le_refl _)).trans hn2.ext).then' hp4.only (by simp) (nt hxL.size uy.size)
  refine Lc (entry_Encode _ (hG.ext (me3.trans ux8)) (hK.ext (me3.trans ux8)) (hN.ext (me3.trans ux8)) (hE.ext (me3.trans ux8)) (hT.ext (me3.trans ux8)) ((dcd D (-1) p 0).k) ((dcd D (-1) p 0).p) ((dcd D (-1) p 0).m) ((dcd D (-1) p 0).tg) ((dcd D (-1) p 0).z) (by omega) (by omega) (by omega)) ?_
  rintro _ h11 ⟨s07, rfl, hr08, hx9⟩
  refine Mv ?_
  refine Lx ?_
  refine Lx ?_
  refine A2 ?_
  refine Nx ?_
  refine Wu _ (sk2 10 9 rfl rfl (tk8 8 6 5 22 3 0 4 23)) ?_
  refine Wq (Wq ?_)
  refine W_pers [(10, .int .i64 (fcheck ((dcd D (-1) p 0).k) ((dcd D (-1) p 0).p) ((dcd D (-1) p 0).m) ((dcd D (-1) p 0).tg) ((dcd D (-1) p 0).z))), (9, s07), (8, .int .i64 (((dcd D (-1) p 0).pos : Int))), (6, .int .i64 ((dcd D (-1) p 0).n)), (5, .pointer (some ⟨h5.size, 0, none⟩)), (22, .int .i64 (((D.length : Int) / 512) + 1)), (3, .pointer (some ⟨rA, 0, none⟩)), (0, v), (4, .int .i64 ((p : Int))), (23, .int .i64 ((i : Int)))] (sk2 10 9 rfl rfl (tk8 8 6 5 22 3 0 4 23)) (by kernel_rfl) ?_
  refine LPc 0 (.int .i64 (fcheck ((dcd D (-1) p 0).k) ((dcd D (-1) p 0).p) ((dcd D (-1) p 0).m) ((dcd D (-1) p 0).tg) ((dcd D (-1) p 0).z))) [] ?_ ?_
  ·intro h12 hx10
   exact Sm
  refine LPc 1 (.bool (decide (¬ (fcheck ((dcd D (-1) p 0).k) ((dcd D (-1) p 0).p) ((dcd D (-1) p 0).m) ((dcd D (-1) p 0).tg) ((dcd D (-1) p 0).z)) = 0))) [(0, 59)] ?_ ?_
  ·intro h13 hx11
   rintro _ rfl
   exact Sy (Y_neq rfl rfl)
  refine LPc 2 (.bool false) [(1, 60)] ?_ ?_
  ·intro h14 hx12
   rintro _ rfl
   refine Nn ?_
   refine Stp_yld (Y_move rfl) rfl ?_
   exact (congrArg Value.bool (decide_eq_false (by exact fun q => q b5))).symm
  refine LPc 3 (.int .i64 ((dcd D (-1) p 0).n)) [(2, 61)] ?_ ?_
  ·intro h15 hx13
   rintro _ rfl
   exact Sm
  refine LPc 4 (.int .i64 ((p : Int))) [(2, 61)] ?_ ?_
  ·intro h16 hx14
   rintro _ rfl
   exact Sm
  refine LPc 5 (.bool (decide (¬ ((dcd D (-1) p 0).n) = (p : Int)))) [(2, 61), (3, 62), (4, 63)] ?_ ?_
  ·intro h17 hx15
   rintro _ rfl
   rintro _ rfl
   rintro _ rfl
   exact Sy (Y_neq rfl rfl)
  refine LPc 6 (.bool (decide (¬ ((dcd D (-1) p 0).n) = (p : Int)))) [(5, 64), (2, 61)] ?_ ?_
  ·intro h18 hx16
   rintro _ rfl
   rintro _ rfl
   exact Sy (Y_pick_f rfl rfl)
  refine LPc 7 (.bool false) [(6, 65)] ?_ ?_
  ·intro h19 hx17
   rintro _ rfl
   refine Nn ?_
   refine Stp_yld (Y_move rfl) rfl ?_
   exact (congrArg Value.bool (decide_eq_false (by exact fun q => q b1))).symm
  refine LPc 8 (.int .i64 (((dcd D (-1) p 0).pos : Int))) [(7, 66)] ?_ ?_
  ·intro h20 hx18
   rintro _ rfl
   exact Sm
  refine LPc 9 (.int .i64 ((p : Int))) [(7, 66)] ?_ ?_
  ·intro h21 hx19
   rintro _ rfl
   exact Sm
  refine LPc 10 (.bool (decide (((dcd D (-1) p 0).pos : Int) ≤ (p : Int)))) [(7, 66), (8, 67), (9, 68)] ?_ ?_
  ·intro h22 hx20
   rintro _ rfl
   rintro _ rfl
   rintro _ rfl
   exact Sy (Y_leq rfl rfl)
  refine LPc 11 (.bool (decide (((dcd D (-1) p 0).pos : Int) ≤ (p : Int)))) [(7, 66), (10, 69)] ?_ ?_
  ·intro h23 hx21
   rintro _ rfl
   rintro _ rfl
   exact Sy (Y_pick_f rfl rfl)
  refine LPc 12 (.bool false) [(11, 70)] ?_ ?_
  ·intro h24 hx22
   rintro _ rfl
   refine Nn ?_
   refine Stp_yld (Y_move rfl) rfl ?_
   exact (congrArg Value.bool (decide_eq_false (by omega))).symm
  refine LPc 13 (.int .i64 (((dcd D (-1) p 0).pos : Int))) [(12, 71)] ?_ ?_
  ·intro h25 hx23
   rintro _ rfl
   exact Sm
  refine LPc 14 (v) [(12, 71)] ?_ ?_
  ·intro h26 hx24
   rintro _ rfl
   exact Sm
  refine LPc 15 (.int .i64 ((D.length : Int))) [(14, 73), (12, 71)] ?_ ?_
  ·intro h27 hx25
   rintro _ rfl
   rintro _ rfl
   exact Sy (Y_len Tryz.underlying22 rfl (hb.ext ((((((hxL.then' uy ugA (Nat.le_refl _)).trans hn2.ext).then' hp4.only (by simp) (nt hxL.size uy.size)).trans ux8).trans hx9).trans hx25)))
  refine LPc 16 (.bool (decide ((D.length : Int) < ((dcd D (-1) p 0).pos : Int)))) [(13, 72), (15, 74), (12, 71)] ?_ ?_
  ·intro h28 hx26
   rintro _ rfl
   rintro _ rfl
   rintro _ rfl
   exact Sy (Y_gtr rfl rfl)
  refine LPc 17 (.bool (decide ((D.length : Int) < ((dcd D (-1) p 0).pos : Int)))) [(16, 75), (12, 71)] ?_ ?_
  ·intro h29 hx27
   rintro _ rfl
   rintro _ rfl
   exact Sy (Y_pick_f rfl rfl)
  refine LPc 18 (.bool false) [(17, 76)] ?_ ?_
  ·intro h30 hx28
   rintro _ rfl
   refine Nn ?_
   refine Stp_yld (Y_move rfl) rfl ?_
   exact (congrArg Value.bool (decide_eq_false (by omega))).symm
  refine LPc 19 (s07) [(18, 77)] ?_ ?_
  ·intro h31 hx29
   rintro _ rfl
   exact Sm
  refine LPc 20 (str (eenc ((dcd D (-1) p 0).k) ((dcd D (-1) p 0).p) ((dcd D (-1) p 0).m) ((dcd D (-1) p 0).tg) ((dcd D (-1) p 0).z))) [(18, 77), (19, 78)] ?_ ?_
  ·intro h32 hx30
   rintro _ rfl
   rintro _ rfl
   exact Sy (Y_bytes_str Tryz.underlying22 Tryz.underlying5 Tryz.underlying9 rfl (hr08.ext hx30))
  refine LPc 21 (v) [(18, 77)] ?_ ?_
  ·intro h33 hx31
   rintro _ rfl
   exact Sm
  refine LPc 22 (.int .i64 ((p : Int))) [(18, 77)] ?_ ?_
  ·intro h34 hx32
   rintro _ rfl
   exact Sm
  refine LPc 23 (.int .i64 (((dcd D (-1) p 0).pos : Int))) [(18, 77)] ?_ ?_
  ·intro h35 hx33
   rintro _ rfl
   exact Sm
  refine LP_op 24 (fun hh r12_1 => Bytes hh r12_1 ((D.take (((dcd D (-1) p 0).pos : Int)).toNat).drop ((p : Int)).toNat)) [(21, 80), (22, 81), (23, 82), (18, 77)] rfl rfl (by kernel_rfl) (fun _ _ _ x_ p_ => p_.ext x_) ?_ ?_
  ·intro h36 hx34
   rintro _ rfl
   rintro _ rfl
   rintro _ rfl
   rintro _ rfl
   refine Nn ?_
   have hb35 : Bytes h36 (slcut 1 ((p : Int)).toNat (((dcd D (-1) p 0).pos : Int)).toNat v) ((D.take (((dcd D (-1) p 0).pos : Int)).toNat).drop ((p : Int)).toNat) := Bytes.cutb (hb.ext ((((((hxL.then' uy ugA (Nat.le_refl _)).trans hn2.ext).then' hp4.only (by simp) (nt hxL.size uy.size)).trans ux8).trans hx9).trans hx34)) (by omega) (by omega)
   refine Stp_yld (Y_cut Tryz.underlying22 (show _ = some 1 by kernel_rfl) rfl (hb.ext ((((((hxL.then' uy ugA (Nat.le_refl _)).trans hn2.ext).then' hp4.only (by simp) (nt hxL.size uy.size)).trans ux8).trans hx9).trans hx34)) rfl rfl (by omega) (by omega) (by omega)) rfl ?_
   exact hb35
  refine LPc 25 (str ((D.take (((dcd D (-1) p 0).pos : Int)).toNat).drop ((p : Int)).toNat)) [(24, 83), (18, 77)] ?_ ?_
  ·intro h37 hx36
   intro r12_1 q12_1
   rintro _ rfl
   exact Sy (Y_bytes_str Tryz.underlying22 Tryz.underlying5 Tryz.underlying9 rfl q12_1)
  refine LPc 26 (.bool (decide (¬ (eenc ((dcd D (-1) p 0).k) ((dcd D (-1) p 0).p) ((dcd D (-1) p 0).m) ((dcd D (-1) p 0).tg) ((dcd D (-1) p 0).z)) = ((D.take (((dcd D (-1) p 0).pos : Int)).toNat).drop ((p : Int)).toNat)))) [(25, 84), (18, 77), (20, 79)] ?_ ?_
  ·intro h38 hx37
   rintro _ rfl
   rintro _ rfl
   rintro _ rfl
   exact Sy (Y_sneq rfl rfl)
  refine LPc 27 (.bool (decide (¬ (eenc ((dcd D (-1) p 0).k) ((dcd D (-1) p 0).p) ((dcd D (-1) p 0).m) ((dcd D (-1) p 0).tg) ((dcd D (-1) p 0).z)) = ((D.take (((dcd D (-1) p 0).pos : Int)).toNat).drop ((p : Int)).toNat)))) [(26, 85), (18, 77)] ?_ ?_
  ·intro h39 hx38
   rintro _ rfl
   rintro _ rfl
   exact Sy (Y_pick_f rfl rfl)
  refine LPc 28 (.bool false) [(27, 86)] ?_ ?_
  ·intro h40 hx39
   rintro _ rfl
   refine Nn ?_
   refine Stp_yld (Y_move rfl) rfl ?_
   exact (congrArg Value.bool (decide_eq_false (by rw [b6]; simp))).symm
  refine LPc 29 (.agg #[.int .i64 ((dcd D (-1) p 0).k), str ((dcd D (-1) p 0).p), .int .i64 ((dcd D (-1) p 0).m), str ((dcd D (-1) p 0).tg), .int .i64 ((dcd D (-1) p 0).z)]) [(28, 87)] ?_ ?_
  ·intro h41 hx40
   rintro _ rfl
   exact Sy (Y_ldbox (us := [.int .i64 ((dcd D (-1) p 0).k), str ((dcd D (-1) p 0).p), .int .i64 ((dcd D (-1) p 0).m), str ((dcd D (-1) p 0).tg), .int .i64 ((dcd D (-1) p 0).z)]) Tryz.underlying37 rfl (show _ = some 5 by kernel_rfl) rfl (hk5.ext ((ux8.trans hx9).trans hx40)) rfl)
  refine LPc 30 (.int .i64 (fcheck ((dcd D (-1) p 0).k) ((dcd D (-1) p 0).p) ((dcd D (-1) p 0).m) ((dcd D (-1) p 0).tg) ((dcd D (-1) p 0).z))) [(29, 88), (28, 87)] ?_ ?_
  ·intro h42 hx41
   rintro _ rfl
   rintro _ rfl
   refine Nn ?_
   refine Stp_call (E_call (by kernel_rfl) rfl) (fit_Check _ (hK.ext ((((((hxL.then' uy ugA (Nat.le_refl _)).trans hn2.ext).then' hp4.only (by simp) (nt hxL.size uy.size)).trans ux8).trans hx9).trans hx41)) (hE.ext ((((((hxL.then' uy ugA (Nat.le_refl _)).trans hn2.ext).then' hp4.only (by simp) (nt hxL.size uy.size)).trans ux8).trans hx9).trans hx41)) ((dcd D (-1) p 0).k) ((dcd D (-1) p 0).p) ((dcd D (-1) p 0).m) ((dcd D (-1) p 0).tg) ((dcd D (-1) p 0).z) (by first | omega | rfl | (simp <;> omega)) (by first | omega | rfl | (simp <;> omega))) rfl ?_
   rintro _ h43 ⟨rfl, hx42⟩
   exact ⟨hx42, rfl⟩
  refine LPc 31 (.bool (decide (¬ (fcheck ((dcd D (-1) p 0).k) ((dcd D (-1) p 0).p) ((dcd D (-1) p 0).m) ((dcd D (-1) p 0).tg) ((dcd D (-1) p 0).z)) = 0))) [(30, 89), (28, 87)] ?_ ?_
  ·intro h44 hx43
   rintro _ rfl
   rintro _ rfl
   exact Sy (Y_neq rfl rfl)
  refine LPc 32 (.bool (decide (¬ (fcheck ((dcd D (-1) p 0).k) ((dcd D (-1) p 0).p) ((dcd D (-1) p 0).m) ((dcd D (-1) p 0).tg) ((dcd D (-1) p 0).z)) = 0))) [(31, 90), (28, 87)] ?_ ?_
  ·intro h45 hx44
   rintro _ rfl
   rintro _ rfl
   exact Sy (Y_pick_f rfl rfl)
  refine LP_end [(32, 91)] rfl (by kernel_rfl) rfl ?_
  intro h46 hx45
  rintro _ rfl
  refine Nn ?_
  refine Xt ?_
  refine W_known false rfl (by exact decide_eq_false (by exact fun q => q b5)) ?_
  refine Wk (Xt (Wg ?_))
  refine Mv ?_
  refine Av ?_
  refine Ln (Xb (Xt ?_))
  refine Wu _ (tk5 4 22 3 0 23) ?_
  refine Wg ?_
  refine Lad ?_
  refine Mv ?_
  refine Ln ?_
  refine X_loop ((i + 1, (dcd D (-1) p 0).pos)) (tk5 22 3 0 4 23) ?_ ?_
  ·exact ⟨by omega, b4, (((me3.trans ux8).trans hx9).trans hx45), by have q9 := (uRA4.ext ((((hn2.ext.then' hp4.only (by simp) (Nat.le_refl _)).trans ux8).trans hx9).trans hx45)); rw [b2] at q9; exact q9⟩
  (try dsimp only)
  omega
 refine W_exit ?_
 refine Xe (Xe ?_)
 refine X_block_hit ?_
 refine Xt ?_
 refine Wu _ sN ?_
 refine Wr ?_
 refine Lc (law12_alive _ (hG.ext hxL) (hK.ext hxL) (hN.ext hxL) (hE.ext hxL) (hT.ext hxL)) ?_
 rintro _ h47 ⟨rfl, hx46⟩
 refine Av ?_
 refine Ln (Xt (Wt ?_))
 refine X_ret1 rfl rfl ?_
 exact ⟨rfl, (hxL.trans hx46)⟩
end Go.Xp
