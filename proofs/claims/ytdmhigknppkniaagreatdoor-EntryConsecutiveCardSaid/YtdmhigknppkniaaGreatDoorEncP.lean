/- Layer 12 (entry): the program's Encode. -/
import Derived.Test.YtdmhigknppkniaaGreatDoorEncL
set_option linter.unusedSimpArgs false
set_option linter.unusedVariables false
set_option linter.unusedSectionVars false
set_option maxRecDepth 100000
namespace Go.Xp
open Go.Proofs

theorem slices_GrowB (h : Heap) (n : Int) (hn : 0 ≤ n ∧ n ≤ 140737488355328) : Cal Tryz.prog 85 #[.slice none 0 0, .int .i64 (n)] h (fun v h' => ∃ s0, v = s0 ∧ OwnB h' h.size s0 (([] : List UInt8)) ∧ Ext h h') := by
 refine Ce Tryz.func85 fun σ => ?_
 refine Wa ?_
 refine Ln (Xt (Wq (Wq (Wg ?_))))
 refine Mv ?_
 refine Ly Yls ?_
 refine Nx ?_
 refine W_known false rfl (by exact decide_eq_false (by omega)) ?_
 refine Wk (Xt (Wq (Wq (Wg ?_))))
 refine M2 ?_
 refine Ly (Y_capnil Tryz.underlying22 rfl) ?_
 refine Mv ?_
 refine Ly (Y_len Tryz.underlying22 rfl (Bytes.nil _)) ?_
 refine Ly (Y_sub rfl rfl (by first | omega | (simp; done) | (simp; omega)) (by first | omega | (simp; done) | (simp; omega))) ?_
 refine Ly (Y_sub rfl rfl (by first | omega | (simp; done) | (simp; omega)) (by first | omega | (simp; done) | (simp; omega))) ?_
 refine An ?_
 refine Wu _ (tk3 1 4 0) ?_
 refine Wm ?_
 refine Ly (Y_gtr rfl rfl) ?_
 refine Nx ?_
 refine Sd (fun c => ?_) fun c => ?_
 ·refine Wg ?_
  refine M2 ?_
  refine Ly (Y_capnil Tryz.underlying22 rfl) ?_
  have hb1 : Bytes h (slcut 1 0 (0 : Int).toNat (.slice none 0 0)) (([] : List UInt8).take 0) := Bytes.cuth (Bytes.nil _) (by first | omega | (simp; done) | (simp; omega)) 
  have ho2 : OwnB h h.size (slcut 1 0 (0 : Int).toNat (.slice none 0 0)) (([] : List UInt8).take 0) := OwnB.cuth (OwnB.nil _ _) (by first | omega | (simp; done) | (simp; omega))
  refine Ly (Y_cut_h Tryz.underlying22 (show _ = some 1 by kernel_rfl) rfl (Bytes.nil _) rfl (by first | omega | (simp; done) | (simp; omega)) (by first | omega | (simp; done) | (simp; omega))) ?_
  refine Mv ?_
  refine L_mks (M_appz Tryz.underlying22 Tryz.underlying3 (by unfold elemRow; kernel_rfl) rfl rfl ho2 (Nat.le_refl _) (by first | omega | (simp; done) | (simp; omega)) (by first | first | omega | (simp; done) | (simp; omega) | (simp; first | omega | (simp; done) | (simp; omega)))) rfl rfl rfl ?_
  rintro v3 h1 ha4
  refine Mv ?_
  refine Ly (Y_len Tryz.underlying22 rfl (Bytes.nil _)) ?_
  have hb5 : Bytes h1 (slcut 1 0 ((([] : List UInt8).length : Int)).toNat v3) (((([] : List UInt8).take 0) ++ (List.replicate (n - (0 - (([] : List UInt8).length : Int))).toNat 0)).take ((([] : List UInt8).length : Int)).toNat) := Bytes.cuth ha4.own.bytes (by first | omega | (simp; done) | (simp; omega)) 
  have ho6 : OwnB h1 h.size (slcut 1 0 ((([] : List UInt8).length : Int)).toNat v3) (((([] : List UInt8).take 0) ++ (List.replicate (n - (0 - (([] : List UInt8).length : Int))).toNat 0)).take ((([] : List UInt8).length : Int)).toNat) := OwnB.cuth ha4.own (by first | omega | (simp; done) | (simp; omega))
  refine Ly (Y_cut_h Tryz.underlying22 (show _ = some 1 by kernel_rfl) rfl ha4.own.bytes rfl (by first | omega | (simp; done) | (simp; omega)) (by first | omega | (simp; done) | (simp; omega))) ?_
  refine An ?_
  refine Wu _ (tk2 0 4) ?_
  refine Wm ?_
  refine Av ?_
  refine Ln (Xt (Wt ?_))
  refine Xv1 ?_
  exact ⟨_, rfl, OwnB.congr ((ho6).low (Nat.le_refl _)) (by simp), ((Ext.refl _).then' ha4.only ha4.ge (Nat.le_refl _))⟩
 refine Wk (Xt (Wq (Wg ?_)))
 refine Mv ?_
 refine Av ?_
 refine Ln (Xt (Wt ?_))
 refine Xv1 ?_
 exact ⟨_, rfl, OwnB.nil _ _, (Ext.refl _)⟩
theorem slices_ConcatB (h : Heap) (w : Value) (l : List Byt) (hl : Rows bytS h w l) (hn : l.length ≤ 100) (hb : (bcat l l.length).length ≤ 140737488355328) : Cal Tryz.prog 36 #[w] h (fun v h' => ∃ s0, v = s0 ∧ OwnB h' h.size s0 (bcat l l.length) ∧ Ext h h') := by
 refine Ce Tryz.func36 fun σ => ?_
 refine Wa ?_
 refine Ln (Xt (Wq (Wg ?_)))
 refine Av ?_
 refine Ln (Xt (Wq (Wq (Wg ?_))))
 refine Mv ?_
 refine Ly (Y_lenr Tryz.underlying172 rfl hl) ?_
 refine Mv ?_
 refine Ln (Xt (Wb ?_))
 refine W_loop (S := Nat) (fun i => [(10, .int .i64 ((l.length : Int))), (9, w), (2, .slice none 0 0), (0, w), (3, .int .i64 (((bcat l i).length : Int))), (11, .int .i64 ((i : Int)))]) (fun i h' => i ≤ l.length ∧ h' = h) (fun i => l.length - i) 0 (sk4 10 9 2 0 rfl rfl rfl rfl (sk1 3 (lki rfl (by rfl)) (tk1 11))) ?_ ?_
 ·exact ⟨Nat.zero_le _, rfl⟩
 rintro i h ⟨hi, rfl⟩
 show W _ _ _ _ _ [(10, .int .i64 ((l.length : Int))), (9, w), (2, .slice none 0 0), (0, w), (3, .int .i64 (((bcat l i).length : Int))), (11, .int .i64 ((i : Int)))] _
 refine Wr ?_
 refine Ly Yls ?_
 refine Ln (Xt (Wq ?_))
 refine Sd (fun hlt => ?_) fun hlt => ?_
 ·refine Wk (Xt (Wq (Wb (Wq (Wg ?_)))))
  refine Ly (Y_idxr Tryz.underlying172 (show _ = some 1 by kernel_rfl) rfl rfl rfl hl (by omega) (by omega)) ?_
  refine Ly (Y_ldr0 (k := ((i : Int)).toNat) (u := ((at_byt l ((i : Int)).toNat).dv)) Tryz.underlying22 rfl rfl rfl hl (by omega) rfl) ?_
  refine An ?_
  have hst : (bcat l (i + 1)).length = (bcat l i).length + (at_byt l (i : Int).toNat).data.length := by rw [bcat_succ (by omega), List.length_append]; rfl
  have hle := bcat_le (l := l) (i := i + 1) (by omega)
  refine Wm ?_
  refine Mv ?_
  refine Ly (Y_len Tryz.underlying22 rfl (show Bytes _ ((at_byt l ((i : Int)).toNat).dv) ((at_byt l ((i : Int)).toNat).data) from hl.okat (k := ((i : Int)).toNat) (by omega))) ?_
  refine Lad ?_
  refine An ?_
  refine Wu _ (tk6 3 10 9 2 0 11) ?_
  refine Wm ?_
  refine Ly Yls ?_
  refine Nx ?_
  refine W_known false rfl (by exact decide_eq_false (by omega)) ?_
  refine Wk (Xb (Xt (Wg ?_)))
  refine Lad ?_
  refine Mv ?_
  refine Ln ?_
  refine X_loop (i + 1) (sk4 10 9 2 0 rfl rfl rfl rfl (sk1 3 (lki rfl (by omega)) (tk1 11))) ?_ ?_
  ·exact ⟨by omega, rfl⟩
  (try dsimp only)
  omega
 refine W_exit ?_
 refine Xe (Xe ?_)
 refine X_block_hit ?_
 refine Xt ?_
 have hle := bcat_le (l := l) (i := i) (by omega)
 refine Wm ?_
 refine Lc (slices_GrowB _ ((bcat l i).length : Int) (by first | omega | rfl | (simp <;> omega))) ?_
 rintro s01 h1 ⟨_, rfl, hr02, hx3⟩
 refine An ?_
 refine Wu _ (tk3 6 2 0) ?_
 refine Wq (Wq (Wg ?_))
 refine Mv ?_
 refine Ly (Y_lenr Tryz.underlying172 rfl (hl.ext hx3)) ?_
 refine Mv ?_
 refine Ln (Xt (Wb ?_))
 refine W_loop (S := Nat × Value) (fun (j, u) => [(26, .int .i64 ((l.length : Int))), (25, w), (2, .slice none 0 0), (6, u), (27, .int .i64 ((j : Int)))]) (fun (j, u) h' => j ≤ l.length ∧ OwnB h' h.size u (bcat l j) ∧ Ext h h') (fun (j, u) => l.length - j) (0, s01) (tk5 26 25 2 6 27) ?_ ?_
 ·exact ⟨Nat.zero_le _, (hr02).low (Nat.le_refl _), hx3⟩
 rintro ⟨j, u⟩ h2 ⟨hj, ho, hxa⟩
 show W _ _ _ _ _ [(26, .int .i64 ((l.length : Int))), (25, w), (2, .slice none 0 0), (6, u), (27, .int .i64 ((j : Int)))] _
 refine Wr ?_
 refine Ly Yls ?_
 refine Ln (Xt (Wq ?_))
 refine Sd (fun hlt => ?_) fun hlt => ?_
 ·refine Wk (Xt (Wq (Wb (Wq (Wg ?_)))))
  refine Ly (Y_idxr Tryz.underlying172 (show _ = some 1 by kernel_rfl) rfl rfl rfl (hl.ext hxa) (by omega) (by omega)) ?_
  refine Ly (Y_ldr0 (k := ((j : Int)).toNat) (u := ((at_byt l ((j : Int)).toNat).dv)) Tryz.underlying22 rfl rfl rfl (hl.ext hxa) (by omega) rfl) ?_
  refine An ?_
  have hst : (bcat l (j + 1)).length = (bcat l j).length + (at_byt l (j : Int).toNat).data.length := by rw [bcat_succ (by omega), List.length_append]; rfl
  have hle := bcat_le (l := l) (i := j + 1) (by omega)
  refine Wg ?_
  refine M2 ?_
  refine L_mks (M_appb Tryz.underlying22 (by unfold elemRow; kernel_rfl) rfl rfl ho (show Bytes _ ((at_byt l ((j : Int)).toNat).dv) ((at_byt l ((j : Int)).toNat).data) from (hl.ext hxa).okat (k := ((j : Int)).toNat) (by omega)) hxa.size (by first | omega | (simp; omega))) rfl rfl rfl ?_
  rintro v4 h3 ha5
  refine Av ?_
  refine Ln (Xb (Xt ?_))
  refine Wu _ (tk5 6 26 25 2 27) ?_
  refine Wg ?_
  refine Lad ?_
  refine Mv ?_
  refine Ln ?_
  refine X_loop ((j + 1, v4)) (tk5 26 25 2 6 27) ?_ ?_
  ·exact ⟨by omega, OwnB.congr ((ha5.own).low (Nat.le_refl _)) (by rw [bcat_succ (by omega)]; rfl), (hxa.then' ha5.only ha5.ge (Nat.le_refl _))⟩
  (try dsimp only)
  omega
 refine W_exit ?_
 refine Xe (Xe ?_)
 refine X_block_hit ?_
 refine Xt (Wq (Wg ?_))
 refine Mv ?_
 refine An ?_
 refine Wu _ (tk1 2) ?_
 refine Wt ?_
 refine Xv1 ?_
 exact ⟨_, rfl, OwnB.congr ((ho).low (Nat.le_refl _)) (by rw [show j = l.length by omega]), hxa⟩
def nblk (n : Int) : Int := if n ≤ 0 then 0 else (n - 1) / 512 + 1
theorem payload_Blocks (h : Heap) (n : Int) (hn : -9223372036854775808 ≤ n ∧ n ≤ 9223372036854775807) : Cal Tryz.prog 35 #[.int .i64 (n)] h (fun v h' => v = .int .i64 (nblk n) ∧ h' = h) := by
 refine Ce Tryz.func35 fun σ => ?_
 refine Wa ?_
 refine Ln (Xt (Wq (Wq (Wg ?_))))
 refine Mv ?_
 refine Ly (Y_leq rfl rfl) ?_
 refine Nx ?_
 refine Sd (fun c => ?_) fun c => ?_
 ·refine Wa ?_
  refine Ln (Xt (Wt (Xr ?_)))
  refine Xv1 ?_
  exact ⟨by unfold nblk; rw [if_pos c], rfl⟩
 refine Wk (Xt (Wq (Wg ?_)))
 refine Mv ?_
 refine Ly (Y_sub rfl rfl (by omega) (by omega)) ?_
 refine Ly (Y_quo rfl rfl (by omega) (by omega) (by omega)) ?_
 refine Lad ?_
 refine An ?_
 refine Wu _ (tk1 2) ?_
 refine Wt ?_
 refine Xv1 ?_
 exact ⟨by unfold nblk; rw [if_neg c], rfl⟩
theorem entry_extended (h : Heap) (n : Int) : Cal Tryz.prog 34 #[.int .i64 (n)] h (fun v h' => v = .agg #[.int .u8 120, str [112, 97, 120], str [], str [], .int .i64 0, .int .i64 (n)] ∧ Ext h h') := by
 refine Ce Tryz.func34 fun σ => ?_
 refine Wr ?_
 refine L_mks (M_alloc (u := .agg #[.int .u8 0, str [], str [], str [], .int .i64 0, .int .i64 0]) (by kernel_rfl)) rfl rfl rfl ?_
 rintro _ h1 ⟨rfl, hn1⟩
 have hk2 : Blk h1 h.size [.int .u8 0, str [], str [], str [], .int .i64 0, .int .i64 0] := hn1.blk
 refine Ln (Xt (Wq (Wg ?_)))
 refine Mv ?_
 refine Ly (Yb (.agg #[.int .u8 120, str [112, 97, 120], str [], str [], .int .i64 0, .int .i64 (n)]) [0, 1, 5] [.const (.int .u8 120), .const (str [112, 97, 120]), .tmp 3] [.int .u8 120, str [112, 97, 120], .int .i64 (n)]) ?_
 refine Lds [.int .u8 120, str [112, 97, 120], str [], str [], .int .i64 0, .int .i64 (n)] hk2 ?_
 rintro h2 hp3
 have hk4 : Blk h2 h.size [.int .u8 120, str [112, 97, 120], str [], str [], .int .i64 0, .int .i64 (n)] := hp3.blk
 refine Ln (Xt (Wt ?_))
 refine X_retv1 rfl (RVa Tryz.underlying71 hk4) ?_
 exact ⟨rfl, (hn1.ext.then' hp3.only (by simp) (Nat.le_refl _))⟩
theorem eenc_full {k m z : Int} {p tg : List UInt8} (e : fcheck k p m tg z = 0) (hne : fR (fcheck k p m tg z) p tg z ≠ []) :
    eenc k p m tg z = uenc 120 [112, 97, 120] [] [] 0 ((rfmt (fR (fcheck k p m tg z) p tg z)).length : Int) ++ rfmt (fR (fcheck k p m tg z) p tg z) ++ List.replicate (nblk ((rfmt (fR (fcheck k p m tg z) p tg z)).length : Int) * 512 - ((rfmt (fR (fcheck k p m tg z) p tg z)).length : Int)).toNat 0 ++ uenc (fT (fcheck k p m tg z) k) (fN (fcheck k p m tg z) p) (fP (fcheck k p m tg z) p) (fL (fcheck k p m tg z) tg) (fM (fcheck k p m tg z) m) (fZ (fcheck k p m tg z) z) := by
  have hg := rfmt_ge e hne
  have hb := blocks_pad hg
  have : (nblk ((rfmt (fR (fcheck k p m tg z) p tg z)).length : Int) * 512 - ((rfmt (fR (fcheck k p m tg z) p tg z)).length : Int)).toNat = padn (rfmt (fR (fcheck k p m tg z) p tg z)).length := by
    unfold nblk; rw [if_neg (by omega)]; omega
  rw [this]
  unfold eenc epre
  rw [if_pos e, if_neg hne]
theorem entry_Encode (h : Heap) (hG : Glb h) (hK : GlbK h) (hN : GlbN h) (hE : GlbE h) (hT : GlbT h) (k : Int) (p : List UInt8) (m : Int) (tg : List UInt8) (z : Int) (hp : p.length ≤ 140737488355328) (ht : tg.length ≤ 140737488355328) (hz : -9223372036854775808 ≤ z ∧ z ≤ 9223372036854775807) : Cal Tryz.prog 14 #[.agg #[.int .i64 (k), str p, .int .i64 (m), str tg, .int .i64 (z)]] h (fun v h' => ∃ s0, v = .tuple #[s0, .int .i64 (fcheck k p m tg z)] ∧ OwnB h' h.size s0 (eenc k p m tg z) ∧ Ext h h') := by
 refine Ce Tryz.func14 fun σ => ?_
 refine Wr ?_
 refine L_mks (M_box rfl) rfl rfl rfl ?_
 rintro _ h1 ⟨rfl, hn1⟩
 have hk2 : Blk h1 h.size [.int .i64 (k), str p, .int .i64 (m), str tg, .int .i64 (z)] := hn1.blk
 refine A2 ?_
 refine Ln (Xt (Wq (Wg ?_)))
 refine Lg Tryz.underlying37 hk2 ?_
 refine Lc (fit_Plan _ (hK.ext hn1.ext) (hN.ext hn1.ext) (hE.ext hn1.ext) (hT.ext hn1.ext) k p m tg z (by first | omega | rfl | (simp <;> omega)) (by first | omega | rfl | (simp <;> omega)) (by first | omega | rfl | (simp <;> omega))) ?_
 rintro _ h2 ⟨s13, rfl, hr14, hx5⟩
 refine Mx ?_
 refine Lx ?_
 refine L_mks (M_alloc (u := .agg #[.int .u8 0, str [], str [], str [], .int .i64 0, .int .i64 0]) (by kernel_rfl)) rfl rfl rfl ?_
 rintro _ h3 ⟨rfl, hn6⟩
 have hk7 : Blk h3 h2.size [.int .u8 0, str [], str [], str [], .int .i64 0, .int .i64 0] := hn6.blk
 refine Lds [.int .u8 (fT (fcheck k p m tg z) k), str (fN (fcheck k p m tg z) p), str (fP (fcheck k p m tg z) p), str (fL (fcheck k p m tg z) tg), .int .i64 (fM (fcheck k p m tg z) m), .int .i64 (fZ (fcheck k p m tg z) z)] hk7 ?_
 rintro h4 hp8
 have hk9 : Blk h4 h2.size [.int .u8 (fT (fcheck k p m tg z) k), str (fN (fcheck k p m tg z) p), str (fP (fcheck k p m tg z) p), str (fL (fcheck k p m tg z) tg), .int .i64 (fM (fcheck k p m tg z) m), .int .i64 (fZ (fcheck k p m tg z) z)] := hp8.blk
 refine A2 ?_
 refine Nx ?_
 refine Wu _ (tk5 6 5 4 3 2) ?_
 refine Wq (Wq (Wg ?_))
 refine Mv ?_
 refine Ly Yne ?_
 refine Nx ?_
 refine Sd (fun e => ?_) fun e => ?_
 ·refine Wm ?_
  refine A2 ?_
  refine Ln (Xt (Wt (Xr ?_)))
  refine Xv2 ?_
  have me1 := ((hn1.ext.trans hx5).trans hn6.ext).then' hp8.only (by simp) (nt hn1.ext.size hx5.size)
  refine ⟨_, rfl, ?_, me1⟩
  rw [eenc_none e]
  exact OwnB.nil _ _
 refine Ws ?_
 have e0 := Classical.not_not.1 e
 have hlens := fcheck_lens e0
 have hR3 := fR_len3 (fcheck k p m tg z) p tg z
 have hRg := fR_good e0 (by omega) (by omega)
 have hfT := fT_range (fcheck k p m tg z) k
 have hu := ucheck_plan e0
 have hr := rlerr_plan e0
 have hrl := rfmt_le e0
 refine Wr ?_
 refine Lg Tryz.underlying71 hk9 ?_
 have me2 := ((hn1.ext.trans hx5).trans hn6.ext).then' hp8.only (by simp) (nt hn1.ext.size hx5.size)
 refine Lc (ustar_Encode _ (hG.ext me2) (fT (fcheck k p m tg z) k) (fN (fcheck k p m tg z) p) (fP (fcheck k p m tg z) p) (fL (fcheck k p m tg z) tg) (fM (fcheck k p m tg z) m) (fZ (fcheck k p m tg z) z) hfT) ?_
 rintro _ h5 ⟨s010, rfl, hr011, hx12⟩
 refine Mx ?_
 refine A2 ?_
 refine Nx ?_
 refine Wu _ (tk5 6 7 5 3 2) ?_
 refine Wq (Wq (Wg ?_))
 refine Mv ?_
 refine Ly Yne ?_
 refine Mv ?_
 refine L_known (d := 28) false rfl (by exact decide_eq_false (by exact fun h9 => h9 hu)) ?_
 refine Mv ?_
 have me3 := (hn6.ext.then' hp8.only (by simp) (Nat.le_refl _)).trans hx12
 refine Ly (Y_lenr Tryz.underlying74 rfl (hr14.rows.ext me3)) ?_
 refine Ly Yeq ?_
 refine Ly Ypf ?_
 refine Nx ?_
 refine Wu _ (tk6 32 6 7 5 3 2) ?_
 refine Sd (fun n => ?_) fun n => ?_
 ·refine Wm ?_
  refine Mv ?_
  refine A2 ?_
  refine Ln (Xt (Wt (Xr ?_)))
  refine Xv2 ?_
  refine ⟨_, by rw [hu, e0], ?_, (me2.trans hx12)⟩
  have hq : eenc k p m tg z = uenc (fT (fcheck k p m tg z) k) (fN (fcheck k p m tg z) p) (fP (fcheck k p m tg z) p) (fL (fcheck k p m tg z) tg) (fM (fcheck k p m tg z) m) (fZ (fcheck k p m tg z) z) := by unfold eenc epre; rw [if_pos e0, if_pos (List.eq_nil_of_length_eq_zero (by omega)), List.nil_append]
  rw [hq]
  have me4 := nt (nt (nt hn1.ext.size hx5.size) hn6.ext.size) hp8.only.size
  exact (hr011).low me4
 refine Ws ?_
 have hne : fR (fcheck k p m tg z) p tg z ≠ [] := fun h9 => n (by rw [h9]; rfl)
 have hrg := rfmt_ge e0 hne
 refine Wm ?_
 refine Lc (rec_Format _ (hK.ext (me2.trans hx12)) (hN.ext (me2.trans hx12)) (hE.ext (me2.trans hx12)) s13 (fR (fcheck k p m tg z) p tg z) (hr14.rows.ext me3) (by omega) hRg) ?_
 rintro _ h6 ⟨s013, rfl, hr014, hx15⟩
 refine Mx ?_
 refine A2 ?_
 refine Nx ?_
 refine Wu _ (tk5 6 8 7 3 2) ?_
 refine Wq (Wq (Wg ?_))
 refine Mv ?_
 refine Ly Yne ?_
 refine Nx ?_
 refine W_known false rfl (by exact decide_eq_false (by exact fun h9 => h9 hr)) ?_
 refine Wk (Xt (Wq (Wg ?_)))
 refine Mv ?_
 refine Ly (Y_len Tryz.underlying22 rfl hr014.bytes) ?_
 refine Av ?_
 refine Ln (Xt (Wq (Wg ?_)))
 refine Mv ?_
 refine Lc (entry_extended _ ((rfmt (fR (fcheck k p m tg z) p tg z)).length : Int)) ?_
 rintro _ h7 ⟨rfl, hx16⟩
 refine Lc (ustar_Encode _ (hG.ext (((me2.trans hx12).trans hx15).trans hx16)) (120 : Int) [112, 97, 120] [] [] (0 : Int) ((rfmt (fR (fcheck k p m tg z) p tg z)).length : Int) (by first | omega | rfl | (simp <;> omega))) ?_
 rintro _ h8 ⟨s017, rfl, hr018, hx19⟩
 refine Mx ?_
 refine A2 ?_
 refine Nx ?_
 refine Wu _ (tk7 6 10 9 8 7 3 2) ?_
 refine Wq (Wq (Wg ?_))
 refine Mv ?_
 refine Ly Yne ?_
 refine Nx ?_
 refine W_known false rfl (by exact decide_eq_false (by exact fun h9 => h9 (ext_ok hrl))) ?_
 refine Ws ?_
 have hnb : nblk ((rfmt (fR (fcheck k p m tg z) p tg z)).length : Int) = (((rfmt (fR (fcheck k p m tg z) p tg z)).length : Int) - 1) / 512 + 1 := by unfold nblk; rw [if_neg (by omega)]
 refine Wm ?_
 refine Lc (payload_Blocks _ ((rfmt (fR (fcheck k p m tg z) p tg z)).length : Int) (by first | omega | rfl | (simp <;> omega))) ?_
 rintro _ h8 ⟨rfl, rfl⟩
 refine Ly (Y_mul rfl rfl (by omega) (by omega)) ?_
 refine Mv ?_
 refine Ly (Y_sub rfl rfl (by omega) (by omega)) ?_
 refine L_mks (M_makeb Tryz.underlying22 (by unfold elemRow; kernel_rfl) rfl rfl rfl (by omega) (by omega)) rfl rfl rfl ?_
 rintro _ h9 ⟨rfl, hx20, hb21⟩
 refine An ?_
 refine Wu _ (tk6 11 10 8 7 3 2) ?_
 obtain ⟨xs22_a, xs22_n, xs22_c, rfl⟩ := slice_form (hr018.bytes.ext hx20)
 obtain ⟨xs23_a, xs23_n, xs23_c, rfl⟩ := slice_form (hr014.bytes.ext ((hx16.trans hx19).trans hx20))
 obtain ⟨xs24_a, xs24_n, xs24_c, rfl⟩ := slice_form (hr011.bytes.ext (((hx15.trans hx16).trans hx19).trans hx20))
 refine Wm ?_
 refine M2 ?_
 refine Mv ?_
 refine L_mks (M_litr (S := bytS) (l := ([⟨(.slice xs22_a xs22_n xs22_c), uenc (120 : Int) [112, 97, 120] [] [] (0 : Int) ((rfmt (fR (fcheck k p m tg z) p tg z)).length : Int)⟩, ⟨(.slice xs23_a xs23_n xs23_c), rfmt (fR (fcheck k p m tg z) p tg z)⟩, ⟨.slice (some ⟨h8.size, 0, none⟩) (((nblk ((rfmt (fR (fcheck k p m tg z) p tg z)).length : Int)) * 512) - ((rfmt (fR (fcheck k p m tg z) p tg z)).length : Int)).toNat (((nblk ((rfmt (fR (fcheck k p m tg z) p tg z)).length : Int)) * 512) - ((rfmt (fR (fcheck k p m tg z) p tg z)).length : Int)).toNat, List.replicate (((nblk ((rfmt (fR (fcheck k p m tg z) p tg z)).length : Int)) * 512) - ((rfmt (fR (fcheck k p m tg z) p tg z)).length : Int)).toNat 0⟩, ⟨(.slice xs24_a xs24_n xs24_c), uenc (fT (fcheck k p m tg z) k) (fN (fcheck k p m tg z) p) (fP (fcheck k p m tg z) p) (fL (fcheck k p m tg z) tg) (fM (fcheck k p m tg z) m) (fZ (fcheck k p m tg z) z)⟩] : List Byt)) (cells := [(.slice xs22_a xs22_n xs22_c), (.slice xs23_a xs23_n xs23_c), .slice (some ⟨h8.size, 0, none⟩) (((nblk ((rfmt (fR (fcheck k p m tg z) p tg z)).length : Int)) * 512) - ((rfmt (fR (fcheck k p m tg z) p tg z)).length : Int)).toNat (((nblk ((rfmt (fR (fcheck k p m tg z) p tg z)).length : Int)) * 512) - ((rfmt (fR (fcheck k p m tg z) p tg z)).length : Int)).toNat, (.slice xs24_a xs24_n xs24_c)]) (pv := [(0, (.slice xs22_a xs22_n xs22_c)), (1, (.slice xs23_a xs23_n xs23_c)), (2, .slice (some ⟨h8.size, 0, none⟩) (((nblk ((rfmt (fR (fcheck k p m tg z) p tg z)).length : Int)) * 512) - ((rfmt (fR (fcheck k p m tg z) p tg z)).length : Int)).toNat (((nblk ((rfmt (fR (fcheck k p m tg z) p tg z)).length : Int)) * 512) - ((rfmt (fR (fcheck k p m tg z) p tg z)).length : Int)).toNat), (3, (.slice xs24_a xs24_n xs24_c))]) (E := 22) (evp (is := [0, 1, 2, 3]) (os := [.tmp 60, .tmp 61, .tmp 62, .tmp 63]) (vs := [(.slice xs22_a xs22_n xs22_c), (.slice xs23_a xs23_n xs23_c), .slice (some ⟨h8.size, 0, none⟩) (((nblk ((rfmt (fR (fcheck k p m tg z) p tg z)).length : Int)) * 512) - ((rfmt (fR (fcheck k p m tg z) p tg z)).length : Int)).toNat (((nblk ((rfmt (fR (fcheck k p m tg z) p tg z)).length : Int)) * 512) - ((rfmt (fR (fcheck k p m tg z) p tg z)).length : Int)).toNat, (.slice xs24_a xs24_n xs24_c)]) rfl rfl) rfl rfl (fun _ => by kernel_rfl) (by simp only [List.mem_cons, List.not_mem_nil, or_false, forall_eq_or_imp, forall_eq]; exact ⟨(hr018.bytes.ext hx20), (hr014.bytes.ext ((hx16.trans hx19).trans hx20)), (hb21.bytes (by simp)), (hr011.bytes.ext (((hx15.trans hx16).trans hx19).trans hx20))⟩)) rfl rfl rfl ?_
 rintro v25 h10 ⟨ho26, hx27⟩
 refine Lc (slices_ConcatB _ v25 ([⟨(.slice xs22_a xs22_n xs22_c), uenc (120 : Int) [112, 97, 120] [] [] (0 : Int) ((rfmt (fR (fcheck k p m tg z) p tg z)).length : Int)⟩, ⟨(.slice xs23_a xs23_n xs23_c), rfmt (fR (fcheck k p m tg z) p tg z)⟩, ⟨.slice (some ⟨h8.size, 0, none⟩) (((nblk ((rfmt (fR (fcheck k p m tg z) p tg z)).length : Int)) * 512) - ((rfmt (fR (fcheck k p m tg z) p tg z)).length : Int)).toNat (((nblk ((rfmt (fR (fcheck k p m tg z) p tg z)).length : Int)) * 512) - ((rfmt (fR (fcheck k p m tg z) p tg z)).length : Int)).toNat, List.replicate (((nblk ((rfmt (fR (fcheck k p m tg z) p tg z)).length : Int)) * 512) - ((rfmt (fR (fcheck k p m tg z) p tg z)).length : Int)).toNat 0⟩, ⟨(.slice xs24_a xs24_n xs24_c), uenc (fT (fcheck k p m tg z) k) (fN (fcheck k p m tg z) p) (fP (fcheck k p m tg z) p) (fL (fcheck k p m tg z) tg) (fM (fcheck k p m tg z) m) (fZ (fcheck k p m tg z) z)⟩] : List Byt) ho26.rows (show 4 ≤ 100 by decide) (by rw [bcat_four]; simp only [List.length_append, List.length_replicate, uenc_len (ext_ok hrl), uenc_len hu]; omega)) ?_
 rintro s028 h11 ⟨_, rfl, hr029, hx30⟩
 refine A2 ?_
 refine Nx ?_
 refine Wu _ (tk2 3 2) ?_
 refine Wt ?_
 refine Xv2 ?_
 have me5 := ((((me2.trans hx12).trans hx15).trans hx16).trans hx19).trans hx20
 refine ⟨_, by rw [e0], ?_, ((me5.trans hx27).trans hx30)⟩
 have me6 := nt (nt (nt hn1.ext.size hx5.size) hn6.ext.size) hp8.only.size
 have me7 := nt (nt (nt (nt me6 hx12.size) hx15.size) hx16.size) hx19.size
 have hq := (hr029).low (nt (nt me7 hx20.size) hx27.size)
 rw [bcat_four] at hq
 rw [eenc_full e0 hne]
 exact hq
end Go.Xp
