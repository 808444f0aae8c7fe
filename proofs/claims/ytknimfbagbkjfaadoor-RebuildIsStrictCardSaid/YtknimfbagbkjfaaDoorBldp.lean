/- Layer 15 (rebuild): Check is pure. -/
import Derived.Test.YtknimfbagbkjfaaDoorBldz
import Derived.Test.YtknimfbagbkjfaaDoorTreeR
set_option linter.unusedSimpArgs false
set_option linter.unusedVariables false
set_option linter.unusedSectionVars false
namespace Go.Xp
open Go.Proofs

theorem bl_same {a b N : List Nod} {n m : Nat} (h1 : a.length = n ∧ a.map er = cno N) (h2 : b.length = m ∧ b.map er = cno N) : lsame a b = true := lsame_er.2 (h1.2.trans h2.2.symm)
set_option maxRecDepth 100000 in
theorem rebuildCheckIsPure (h : Heap) (hK : GlbK h) (hE : GlbE h) (w : Value) (l : List Mem) (hl : Rows memS h w l) (hn : l.length ≤ 140737488355328) (hs : ∀ x ∈ l, x.path.length ≤ 140737488355328 ∧ x.target.length ≤ 140737488355328 ∧ x.data.length ≤ 140737488355328 ∧ -9223372036854775808 ≤ x.size ∧ x.size ≤ 9223372036854775807) : Cal Tryd.prog 5 #[w] h (fun v h' => v = .bool true ∧ Ext h h') := by
 refine Cal_enter (args := [w]) Tryd.func5 rfl rfl rfl (fun σ => ?_)
 refine Wr ?_
 refine Av ?_
 refine L_nil (X_then (W_seq (W_region ?_)))
 refine L_call (E_call (by kernel_rfl) rfl) (bl_New _) rfl rfl rfl ?_
 rintro _ h1 ⟨b0, rfl, uB0, ux0⟩
 refine Av ?_
 refine Nx ?_
 refine W_sub _ (tk3 3 2 0) ?_
 refine W_seq (W_seq (W_region ?_))
 refine Mv ?_
 refine L_call (E_call (by kernel_rfl) rfl) (law15_TooLarge _ w l (hl.ext ux0) hn (fun x hx => ⟨(hs x hx).1, (hs x hx).2.1, (hs x hx).2.2.1⟩)) rfl rfl rfl ?_
 rintro _ h2 ⟨rfl, hx1⟩
 refine Ly (Y_gtr rfl rfl) ?_
 refine Mv ?_
 refine L_splitd (d := 15) rfl (fun g => ?_) (fun g => ?_)
 ·refine Skp ?_
  refine Skp ?_
  refine Ly (Y_pick_t rfl rfl) ?_
  refine Nx ?_
  refine W_sub _ (tk4 18 3 2 0) ?_
  refine W_true rfl ?_
  refine Wr ?_
  refine L_call (E_call (by kernel_rfl) rfl) (law15_alive _ (hK.ext (ux0.trans hx1)) (hE.ext (ux0.trans hx1))) rfl rfl rfl ?_
  rintro _ h3 ⟨rfl, hx2⟩
  refine Av ?_
  refine Nx ?_
  refine W_sub _ (tk3 2 3 0) ?_
  refine W_ret (X_then_ret ?_)
  refine X_ret1 rfl rfl ?_
  exact ⟨rfl, ((ux0.trans hx1).trans hx2)⟩
 refine Ly (Y_move rfl) ?_
 refine Ly (Y_pnil (ad := some ⟨b0, 0, none⟩) (show _ = some (TypeDesc.pointer (Tryd.prog.pointee 23)) by kernel_rfl) rfl rfl) ?_
 refine Ly (Y_pick_f rfl rfl) ?_
 refine Nx ?_
 refine W_sub _ (tk4 18 3 2 0) ?_
 refine W_false rfl ?_
 refine Ws ?_
 refine W_sub _ (tk3 3 2 0) ?_
 have ok := mtoo_ok g
 refine W_seq (W_seq (W_region ?_))
 refine Mv ?_
 refine Ly (Y_lenr Tryd.underlying22 rfl (hl.ext (ux0.trans hx1))) ?_
 refine Mv ?_
 refine L_nil (X_then (W_block ?_))
 refine W_loop (S := Nat × List Nod) (fun (i, N) => [(21, .int .i64 ((l.length : Int))), (20, w), (3, .pointer (some ⟨b0, 0, none⟩)), (0, w), (22, .int .i64 ((i : Int)))]) (fun (i, N) h' => i ≤ l.length ∧ N.length ≤ i ∧ BL h h' b0 N ∧ Ext h h') (fun (i, N) => l.length - i) (0, []) (tk5 21 20 3 0 22) ?_ ?_
 ·exact ⟨Nat.zero_le _, Nat.le_refl _, (uB0.ext hx1), (ux0.trans hx1)⟩
 rintro ⟨i, N⟩ h4 ⟨hi, hNi, uBi, uxi⟩
 show W _ _ _ _ _ [(21, .int .i64 ((l.length : Int))), (20, w), (3, .pointer (some ⟨b0, 0, none⟩)), (0, w), (22, .int .i64 ((i : Int)))] _
 refine Wr ?_
 refine Ly (Y_lss rfl rfl) ?_
 refine L_nil (X_then (W_seq ?_))
 refine W_splitd rfl (fun c => ?_) (fun c => ?_)
 ·refine Ws ?_
  refine W_sub _ (tk5 21 20 3 0 22) ?_
  refine W_seq (W_block (W_seq (W_region ?_)))
  refine Mv ?_
  refine Ly (Y_idxr Tryd.underlying22 (show _ = some 6 by kernel_rfl) rfl rfl rfl (hl.ext uxi) (by omega) (by omega)) ?_
  refine Ly (Y_ldrA0 (k := ((i : Int)).toNat) (us := [.int .i64 ((at_mem l ((i : Int)).toNat).kind), str ((at_mem l ((i : Int)).toNat).path), .int .i64 ((at_mem l ((i : Int)).toNat).mode), str ((at_mem l ((i : Int)).toNat).target), .int .i64 ((at_mem l ((i : Int)).toNat).size), ((at_mem l ((i : Int)).toNat).dv)]) Tryd.underlying30 rfl (show _ = some 6 by kernel_rfl) rfl rfl (hl.ext uxi) (by omega) rfl) ?_
  refine L_mks (M_alloc (u := .agg #[.int .i64 0, str [], .int .i64 0, str [], .int .i64 0, .slice none 0 0]) (by kernel_rfl)) rfl rfl rfl ?_
  rintro _ h5 ⟨rfl, hn3⟩
  have hk4 : Blk h5 h4.size [.int .i64 0, str [], .int .i64 0, str [], .int .i64 0, .slice none 0 0] := hn3.blk
  refine Av ?_
  refine L_dos (D_store (us := [.int .i64 ((at_mem l ((i : Int)).toNat).kind), str ((at_mem l ((i : Int)).toNat).path), .int .i64 ((at_mem l ((i : Int)).toNat).mode), str ((at_mem l ((i : Int)).toNat).target), .int .i64 ((at_mem l ((i : Int)).toNat).size), ((at_mem l ((i : Int)).toNat).dv)]) (show _ = some 6 by kernel_rfl) rfl rfl rfl (by intro u_ hu_; simp only [List.mem_cons, List.not_mem_nil, or_false] at hu_; rcases hu_ with rfl | rfl | rfl | rfl | rfl | rfl <;> first | rfl | exact ((show Bytes _ ((at_mem l ((i : Int)).toNat).dv) ((at_mem l ((i : Int)).toNat).data) from (hl.ext (uxi.trans hn3.ext)).okat (k := ((i : Int)).toNat) (by omega))).cell1) hk4 (by simp)) rfl rfl ?_
  rintro h6 hp5
  have hk6 : Blk h6 h4.size [.int .i64 ((at_mem l ((i : Int)).toNat).kind), str ((at_mem l ((i : Int)).toNat).path), .int .i64 ((at_mem l ((i : Int)).toNat).mode), str ((at_mem l ((i : Int)).toNat).target), .int .i64 ((at_mem l ((i : Int)).toNat).size), ((at_mem l ((i : Int)).toNat).dv)] := hp5.blk
  refine Nx ?_
  refine W_sub _ (tk7 4 5 21 20 3 0 22) ?_
  have hX := ok.2 _ (bm_mem (l := l) (k := ((i : Int)).toNat) (by omega))
  refine Wr ?_
  refine Mv ?_
  refine L_call (E_call (by kernel_rfl) rfl) (bl_Nodes (hK.ext ((uxi.trans hn3.ext).then' hp5.only (by simp) uxi.size)) (hE.ext ((uxi.trans hn3.ext).then' hp5.only (by simp) uxi.size)) (uBi.ext (hn3.ext.then' hp5.only (by simp) (Nat.le_refl _))) (by omega)) rfl rfl rfl ?_
  rintro uv1 h7 ⟨uR1, uL1, uq1, ux1⟩
  refine Av ?_
  refine Nx ?_
  refine W_sub _ (tk8 6 4 5 21 20 3 0 22) ?_
  refine Wr ?_
  refine Mv ?_
  refine Ly (Y_fieldAddr (off := 0) (by kernel_rfl) rfl rfl) ?_
  refine Ly (Y_ldbox (us := [.int .i64 ((at_mem l ((i : Int)).toNat).kind), str ((at_mem l ((i : Int)).toNat).path), .int .i64 ((at_mem l ((i : Int)).toNat).mode), str ((at_mem l ((i : Int)).toNat).target), .int .i64 ((at_mem l ((i : Int)).toNat).size)]) Tryd.underlying27 rfl (show _ = some 5 by kernel_rfl) rfl (hk6.ext ux1) rfl) ?_
  have me1 := ((uxi.trans hn3.ext).then' hp5.only (by simp) uxi.size).trans ux1
  have me2 := (hn3.ext.then' hp5.only (by simp) (Nat.le_refl _)).trans ux1
  refine L_call (E_call (by kernel_rfl) rfl) (bl_CheckM (hK.ext me1) (hE.ext me1) (uBi.ext me2) (at_mem l ((i : Int)).toNat) (by omega) hX) rfl rfl rfl ?_
  rintro _ h8 ⟨rfl, ux2⟩
  refine Av ?_
  refine Nx ?_
  refine W_sub _ (sk1 7 rfl (tk8 6 4 5 21 20 3 0 22)) ?_
  refine W_seq (W_seq (W_region ?_))
  refine Mv ?_
  refine Ly (Y_lenr Tryd.underlying22 rfl (hl.ext (me1.trans ux2))) ?_
  refine Mv ?_
  refine L_nil (X_then (W_block ?_))
  refine W_loop (S := Nat) (fun j => [(34, .int .i64 ((l.length : Int))), (33, w), (7, .int .i64 ((bchkm N (at_mem l ((i : Int)).toNat)))), (6, uv1), (4, .int .i64 ((i : Int))), (5, .pointer (some ⟨h4.size, 0, none⟩)), (21, .int .i64 ((l.length : Int))), (20, w), (3, .pointer (some ⟨b0, 0, none⟩)), (0, w), (22, .int .i64 ((i : Int))), (35, .int .i64 ((j : Int)))]) (fun j h' => j ≤ l.length ∧ Ext h8 h') (fun j => l.length - j) 0 (sk4 34 33 7 6 rfl rfl rfl rfl (tk8 4 5 21 20 3 0 22 35)) ?_ ?_
  ·exact ⟨Nat.zero_le _, Ext.refl _⟩
  rintro j h9 ⟨hj, uxj⟩
  show W _ _ _ _ _ [(34, .int .i64 ((l.length : Int))), (33, w), (7, .int .i64 ((bchkm N (at_mem l ((i : Int)).toNat)))), (6, uv1), (4, .int .i64 ((i : Int))), (5, .pointer (some ⟨h4.size, 0, none⟩)), (21, .int .i64 ((l.length : Int))), (20, w), (3, .pointer (some ⟨b0, 0, none⟩)), (0, w), (22, .int .i64 ((i : Int))), (35, .int .i64 ((j : Int)))] _
  refine Wr ?_
  refine Ly (Y_lss rfl rfl) ?_
  refine L_nil (X_then (W_seq ?_))
  refine W_splitd rfl (fun cj => ?_) (fun cj => ?_)
  ·refine Ws ?_
   refine W_sub _ (sk4 34 33 7 6 rfl rfl rfl rfl (tk8 4 5 21 20 3 0 22 35)) ?_
   refine W_seq (W_block (W_seq (W_region ?_)))
   refine Ly (Y_idxr Tryd.underlying22 (show _ = some 6 by kernel_rfl) rfl rfl rfl (hl.ext ((me1.trans ux2).trans uxj)) (by omega) (by omega)) ?_
   refine Ly (Y_ldrA0 (k := ((j : Int)).toNat) (us := [.int .i64 ((at_mem l ((j : Int)).toNat).kind), str ((at_mem l ((j : Int)).toNat).path), .int .i64 ((at_mem l ((j : Int)).toNat).mode), str ((at_mem l ((j : Int)).toNat).target), .int .i64 ((at_mem l ((j : Int)).toNat).size), ((at_mem l ((j : Int)).toNat).dv)]) Tryd.underlying30 rfl (show _ = some 6 by kernel_rfl) rfl rfl (hl.ext ((me1.trans ux2).trans uxj)) (by omega) rfl) ?_
   refine L_mks (M_alloc (u := .agg #[.int .i64 0, str [], .int .i64 0, str [], .int .i64 0, .slice none 0 0]) (by kernel_rfl)) rfl rfl rfl ?_
   rintro _ h10 ⟨rfl, hn7⟩
   have hk8 : Blk h10 h9.size [.int .i64 0, str [], .int .i64 0, str [], .int .i64 0, .slice none 0 0] := hn7.blk
   refine L_dos (D_store (us := [.int .i64 ((at_mem l ((j : Int)).toNat).kind), str ((at_mem l ((j : Int)).toNat).path), .int .i64 ((at_mem l ((j : Int)).toNat).mode), str ((at_mem l ((j : Int)).toNat).target), .int .i64 ((at_mem l ((j : Int)).toNat).size), ((at_mem l ((j : Int)).toNat).dv)]) (show _ = some 6 by kernel_rfl) rfl rfl rfl (by intro u_ hu_; simp only [List.mem_cons, List.not_mem_nil, or_false] at hu_; rcases hu_ with rfl | rfl | rfl | rfl | rfl | rfl <;> first | rfl | exact ((show Bytes _ ((at_mem l ((j : Int)).toNat).dv) ((at_mem l ((j : Int)).toNat).data) from (hl.ext (((me1.trans ux2).trans uxj).trans hn7.ext)).okat (k := ((j : Int)).toNat) (by omega))).cell1) hk8 (by simp)) rfl rfl ?_
   rintro h11 hp9
   have hk10 : Blk h11 h9.size [.int .i64 ((at_mem l ((j : Int)).toNat).kind), str ((at_mem l ((j : Int)).toNat).path), .int .i64 ((at_mem l ((j : Int)).toNat).mode), str ((at_mem l ((j : Int)).toNat).target), .int .i64 ((at_mem l ((j : Int)).toNat).size), ((at_mem l ((j : Int)).toNat).dv)] := hp9.blk
   refine Nx ?_
   refine W_sub _ (sk5 9 34 33 7 6 rfl rfl rfl rfl rfl (tk8 4 5 21 20 3 0 22 35)) ?_
   have hY := ok.2 _ (bm_mem (l := l) (k := ((j : Int)).toNat) (by omega))
   refine W_region ?_
   refine Mv ?_
   refine Ly (Y_fieldAddr (off := 0) (by kernel_rfl) rfl rfl) ?_
   refine Ly (Y_ldbox (us := [.int .i64 ((at_mem l ((j : Int)).toNat).kind), str ((at_mem l ((j : Int)).toNat).path), .int .i64 ((at_mem l ((j : Int)).toNat).mode), str ((at_mem l ((j : Int)).toNat).target), .int .i64 ((at_mem l ((j : Int)).toNat).size)]) Tryd.underlying27 rfl (show _ = some 5 by kernel_rfl) rfl hk10 rfl) ?_
   have me3 := Nat.le_trans (Nat.le_trans uxi.size hn3.ext.size) hp5.only.size
   have me4 := Nat.le_trans (Nat.le_trans (Nat.le_trans me3 ux1.size) ux2.size) uxj.size
   have me5 := (((me1.trans ux2).trans uxj).trans hn7.ext).then' hp9.only (by simp) me4
   have me6 := Nat.le_trans (Nat.le_trans hn3.ext.size hp5.only.size) ux1.size
   have me7 := (((me2.trans ux2).trans uxj).trans hn7.ext).then' hp9.only (by simp) (Nat.le_trans (Nat.le_trans me6 ux2.size) uxj.size)
   refine L_call (E_call (by kernel_rfl) rfl) (bl_CheckM (hK.ext me5) (hE.ext me5) (uBi.ext me7) (at_mem l ((j : Int)).toNat) (by omega) hY) rfl rfl rfl ?_
   rintro _ h12 ⟨rfl, ux3⟩
   refine L_nil (X_block (X_then ?_))
   refine W_sub _ (sk4 34 33 7 6 rfl rfl rfl rfl (tk8 4 5 21 20 3 0 22 35)) ?_
   refine W_region ?_
   refine Ly (Y_add rfl rfl (by omega) (by omega)) ?_
   refine Mv ?_
   refine L_nil ?_
   refine X_loop (j + 1) (sk4 34 33 7 6 rfl rfl rfl rfl (tk8 4 5 21 20 3 0 22 35)) ?_ ?_
   ·exact ⟨by omega, (((uxj.trans hn7.ext).then' hp9.only (by simp) uxj.size).trans ux3)⟩
   (try dsimp only)
   omega
  refine W_exit ?_
  refine X_then_exit (X_then_exit ?_)
  refine X_block_hit ?_
  refine X_then ?_
  refine W_sub _ (sk1 7 rfl (tk8 6 4 5 21 20 3 0 22)) ?_
  refine W_seq (W_seq (W_region ?_))
  refine Mv ?_
  refine Ly (Y_fieldAddr (off := 0) (by kernel_rfl) rfl rfl) ?_
  refine Ly (Y_ldbox (us := [.int .i64 ((at_mem l ((i : Int)).toNat).kind), str ((at_mem l ((i : Int)).toNat).path), .int .i64 ((at_mem l ((i : Int)).toNat).mode), str ((at_mem l ((i : Int)).toNat).target), .int .i64 ((at_mem l ((i : Int)).toNat).size)]) Tryd.underlying27 rfl (show _ = some 5 by kernel_rfl) rfl (hk6.ext ((ux1.trans ux2).trans uxj)) rfl) ?_
  refine L_call (E_call (by kernel_rfl) rfl) (bl_CheckM (hK.ext ((me1.trans ux2).trans uxj)) (hE.ext ((me1.trans ux2).trans uxj)) (uBi.ext ((me2.trans ux2).trans uxj)) (at_mem l ((i : Int)).toNat) (by omega) hX) rfl rfl rfl ?_
  rintro _ h13 ⟨rfl, ux4⟩
  refine Mv ?_
  refine Ly (Y_neq rfl rfl) ?_
  refine Mv ?_
  refine L_known (d := 50) false rfl (by exact decide_eq_false (by exact fun q => q rfl)) ?_
  refine Mv ?_
  refine L_call (E_call (by kernel_rfl) rfl) (bl_Nodes (hK.ext (((me1.trans ux2).trans uxj).trans ux4)) (hE.ext (((me1.trans ux2).trans uxj).trans ux4)) (uBi.ext (((me2.trans ux2).trans uxj).trans ux4)) (by omega)) rfl rfl rfl ?_
  rintro uv5 h14 ⟨uR5, uL5, uq5, ux5⟩
  refine Mv ?_
  refine L_call (E_call (by kernel_rfl) rfl) (ref13_Same _ uv5 uR5 uL5 uv1 uR1 (uL1.ext (((ux2.trans uxj).trans ux4).trans ux5)) (by have := uq5.1; omega)) rfl rfl rfl ?_
  rintro _ h15 ⟨rfl, hx11⟩
  refine Ly (Y_not rfl) ?_
  refine Ly (Y_pick_f rfl rfl) ?_
  refine Nx ?_
  refine W_sub _ (sk2 56 7 rfl rfl (tk8 6 4 5 21 20 3 0 22)) ?_
  refine W_known false rfl (by rw [bl_same uq5 uq1]; rfl) ?_
  refine Ws ?_
  refine W_sub _ (sk1 7 rfl (tk8 6 4 5 21 20 3 0 22)) ?_
  refine Wr ?_
  refine Mv ?_
  have me8 := ((((ux1.trans ux2).trans uxj).trans ux4).trans ux5).trans hx11
  refine Ly (Y_ldbox (us := [.int .i64 ((at_mem l ((i : Int)).toNat).kind), str ((at_mem l ((i : Int)).toNat).path), .int .i64 ((at_mem l ((i : Int)).toNat).mode), str ((at_mem l ((i : Int)).toNat).target), .int .i64 ((at_mem l ((i : Int)).toNat).size), ((at_mem l ((i : Int)).toNat).dv)]) Tryd.underlying30 rfl (show _ = some 6 by kernel_rfl) rfl (hk6.ext me8) rfl) ?_
  have me9 := ((((me1.trans ux2).trans uxj).trans ux4).trans ux5).trans hx11
  have me10 := ((((me2.trans ux2).trans uxj).trans ux4).trans ux5).trans hx11
  refine L_call (E_call (by kernel_rfl) rfl) (bl_Add (hK.ext me9) (hE.ext me9) uBi me10 me9 (at_mem l ((i : Int)).toNat) ((hl.ext me9).2 _ (bm_mem (l := l) (k := ((i : Int)).toNat) (by omega))) (by omega) hX) rfl rfl rfl ?_
  rintro _ h16 ⟨rfl, ⟨us6, uy6, ug6, ul6⟩, uo6⟩
  refine Av ?_
  refine Nx ?_
  refine W_sub _ (sk2 10 7 rfl rfl (tk8 6 4 5 21 20 3 0 22)) ?_
  by_cases c0 : bchkm N (at_mem l ((i : Int)).toNat) = 0
  ·by_cases d0 : ((at_mem l ((i : Int)).toNat).data.length : Int) = (at_mem l ((i : Int)).toNat).size
   ·have e0 := berr_y c0 d0
    obtain ⟨d6, uB6⟩ := (uo6.resolve_left (fun q => q.1 e0)).2
    refine Wr ?_
    refine Mv ?_
    refine Ly (Y_neq rfl rfl) ?_
    refine Mv ?_
    refine L_known (d := 62) false rfl (by exact decide_eq_false (by exact fun q => q c0)) ?_
    refine Skp ?_
    refine Skp ?_
    refine Skp ?_
    refine Ly (Y_pick_f rfl rfl) ?_
    refine Mv ?_
    refine Mv ?_
    refine Ly (Y_eql rfl rfl) ?_
    refine Mv ?_
    refine L_known (d := 70) true rfl (by exact decide_eq_true (by exact c0)) ?_
    refine Mv ?_
    refine Ly (Y_eql rfl rfl) ?_
    refine Ly (Y_fieldAddr (off := 5) (by kernel_rfl) rfl rfl) ?_
    have hc12 := (((((((hk6.ext ux1).ext ux2).ext uxj).ext ux4).ext ux5).ext hx11).only uy6 (fun hb_ => Nat.lt_irrefl _ (Nat.lt_of_lt_of_le (ul6 _ hb_) (Nat.le_refl _))))
    refine Ly (Y_ldblk Tryd.underlying28 rfl rfl hc12 rfl) ?_
    refine Ly (Y_len Tryd.underlying28 rfl (show Bytes _ ((at_mem l ((i : Int)).toNat).dv) ((at_mem l ((i : Int)).toNat).data) from (hl.ext (me9.then' uy6 ug6 (Nat.le_refl _))).okat (k := ((i : Int)).toNat) (by omega))) ?_
    refine Ly (Y_fieldAddr (off := 0) (by kernel_rfl) rfl rfl) ?_
    refine Ly (Y_fieldAddr (off := 4) (by kernel_rfl) rfl rfl) ?_
    refine Ly (Y_ldblk Tryd.underlying2 rfl rfl hc12 rfl) ?_
    refine Ly (Y_eql rfl rfl) ?_
    refine Ly (Y_bneq Tryd.underlying4 rfl rfl) ?_
    refine Ly (Y_pick_t rfl rfl) ?_
    refine Ly (Y_pick_f rfl rfl) ?_
    refine Mv ?_
    refine L_known (d := 83) false rfl (by rw [decide_eq_true e0, decide_eq_true d0]; rfl) ?_
    refine Mv ?_
    refine Ly (Y_neq rfl rfl) ?_
    refine Mv ?_
    refine L_known (d := 86) false rfl (by exact decide_eq_false (by exact fun q => q e0)) ?_
    refine Skp ?_
    refine Skp ?_
    refine Skp ?_
    refine Skp ?_
    refine Skp ?_
    refine Ly (Y_pick_f rfl rfl) ?_
    refine Ly (Y_pick_f rfl rfl) ?_
    refine Mv ?_
    refine Mv ?_
    refine L_call (E_call (by kernel_rfl) rfl) (bl_Nodes (hK.ext (me9.then' uy6 ug6 (Nat.le_refl _))) (hE.ext (me9.then' uy6 ug6 (Nat.le_refl _))) uB6 (by simp; omega)) rfl rfl rfl ?_
    rintro uv7 h17 ⟨uR7, uL7, uq7, ux7⟩
    refine Ly (Y_lenr Tryd.underlying32 rfl uL7) ?_
    refine Mv ?_
    refine Ly (Y_add rfl rfl (by omega) (by omega)) ?_
    refine Ly (Y_gtr rfl rfl) ?_
    refine Ly (Y_pick_f rfl rfl) ?_
    refine Nx ?_
    refine W_sub _ (tk6 101 21 20 3 0 22) ?_
    refine W_known false rfl (by exact decide_eq_false (by have := uq7.1; simp at this; omega)) ?_
    refine W_skip (X_block (X_then ?_))
    refine W_sub _ (tk5 21 20 3 0 22) ?_
    refine W_region ?_
    refine Ly (Y_add rfl rfl (by omega) (by omega)) ?_
    refine Mv ?_
    refine L_nil ?_
    refine X_loop ((i + 1, N ++ [bnod N (at_mem l ((i : Int)).toNat) d6])) (tk5 21 20 3 0 22) ?_ ?_
    ·exact ⟨by omega, by simp; omega, (uB6.ext ux7), ((me9.then' uy6 ug6 (Nat.le_refl _)).trans ux7)⟩
    (try dsimp only)
    omega
   have e0 := berr_n (N := N) d0
   have ux8 := (uo6.resolve_right (fun q => e0 q.1)).2
   refine Wr ?_
   refine Mv ?_
   refine Ly (Y_neq rfl rfl) ?_
   refine Mv ?_
   refine L_known (d := 62) false rfl (by exact decide_eq_false (by exact fun q => q c0)) ?_
   refine Skp ?_
   refine Skp ?_
   refine Skp ?_
   refine Ly (Y_pick_f rfl rfl) ?_
   refine Mv ?_
   refine Mv ?_
   refine Ly (Y_eql rfl rfl) ?_
   refine Mv ?_
   refine L_known (d := 70) true rfl (by exact decide_eq_true (by exact c0)) ?_
   refine Mv ?_
   refine Ly (Y_eql rfl rfl) ?_
   refine Ly (Y_fieldAddr (off := 5) (by kernel_rfl) rfl rfl) ?_
   refine Ly (Y_ldblk Tryd.underlying28 rfl rfl (hk6.ext (me8.trans ux8)) rfl) ?_
   refine Ly (Y_len Tryd.underlying28 rfl (show Bytes _ ((at_mem l ((i : Int)).toNat).dv) ((at_mem l ((i : Int)).toNat).data) from (hl.ext (me9.trans ux8)).okat (k := ((i : Int)).toNat) (by omega))) ?_
   refine Ly (Y_fieldAddr (off := 0) (by kernel_rfl) rfl rfl) ?_
   refine Ly (Y_fieldAddr (off := 4) (by kernel_rfl) rfl rfl) ?_
   refine Ly (Y_ldblk Tryd.underlying2 rfl rfl (hk6.ext (me8.trans ux8)) rfl) ?_
   refine Ly (Y_eql rfl rfl) ?_
   refine Ly (Y_bneq Tryd.underlying4 rfl rfl) ?_
   refine Ly (Y_pick_t rfl rfl) ?_
   refine Ly (Y_pick_f rfl rfl) ?_
   refine Mv ?_
   refine L_known (d := 83) false rfl (by rw [decide_eq_false e0, decide_eq_false d0]; rfl) ?_
   refine Mv ?_
   refine Ly (Y_neq rfl rfl) ?_
   refine Mv ?_
   refine L_known (d := 86) true rfl (by exact decide_eq_true (by exact e0)) ?_
   refine Mv ?_
   refine L_call (E_call (by kernel_rfl) rfl) (bl_Nodes (hK.ext (me9.trans ux8)) (hE.ext (me9.trans ux8)) (uBi.ext (me10.trans ux8)) (by omega)) rfl rfl rfl ?_
   rintro uv9 h18 ⟨uR9, uL9, uq9, ux9⟩
   refine Mv ?_
   have me11 := ((((ux2.trans uxj).trans ux4).trans ux5).trans hx11).trans ux8
   refine L_call (E_call (by kernel_rfl) rfl) (ref13_Same _ uv9 uR9 uL9 uv1 uR1 (uL1.ext (me11.trans ux9)) (by have := uq9.1; omega)) rfl rfl rfl ?_
   rintro _ h19 ⟨rfl, hx13⟩
   refine Ly (Y_not rfl) ?_
   refine Ly (Y_pick_t rfl rfl) ?_
   refine Ly (Y_pick_f rfl rfl) ?_
   refine Mv ?_
   refine L_known (d := 94) false rfl (by rw [bl_same uq9 uq1]; rfl) ?_
   refine Mv ?_
   refine L_call (E_call (by kernel_rfl) rfl) (bl_Nodes (hK.ext (((me9.trans ux8).trans ux9).trans hx13)) (hE.ext (((me9.trans ux8).trans ux9).trans hx13)) (uBi.ext (((me10.trans ux8).trans ux9).trans hx13)) (by omega)) rfl rfl rfl ?_
   rintro uv7 h20 ⟨uR7, uL7, uq7, ux7⟩
   refine Ly (Y_lenr Tryd.underlying32 rfl uL7) ?_
   refine Mv ?_
   refine Ly (Y_add rfl rfl (by omega) (by omega)) ?_
   refine Ly (Y_gtr rfl rfl) ?_
   refine Ly (Y_pick_f rfl rfl) ?_
   refine Nx ?_
   refine W_sub _ (tk6 101 21 20 3 0 22) ?_
   refine W_known false rfl (by exact decide_eq_false (by have := uq7.1; omega)) ?_
   refine W_skip (X_block (X_then ?_))
   refine W_sub _ (tk5 21 20 3 0 22) ?_
   refine W_region ?_
   refine Ly (Y_add rfl rfl (by omega) (by omega)) ?_
   refine Mv ?_
   refine L_nil ?_
   refine X_loop ((i + 1, N)) (tk5 21 20 3 0 22) ?_ ?_
   ·exact ⟨by omega, by omega, (uBi.ext ((((me10.trans ux8).trans ux9).trans hx13).trans ux7)), ((((me9.trans ux8).trans ux9).trans hx13).trans ux7)⟩
   (try dsimp only)
   omega
  have e0 := berr_c c0
  have ux8 := (uo6.resolve_right (fun q => c0 (by rw [← e0]; exact q.1))).2
  refine Wr ?_
  refine Mv ?_
  refine Ly (Y_neq rfl rfl) ?_
  refine Mv ?_
  refine L_known (d := 62) true rfl (by exact decide_eq_true (by exact c0)) ?_
  refine Mv ?_
  refine Mv ?_
  refine Ly (Y_neq rfl rfl) ?_
  refine Ly (Y_pick_t rfl rfl) ?_
  refine Mv ?_
  refine L_known (d := 67) false rfl (by exact decide_eq_false (by exact fun q => q e0)) ?_
  refine Mv ?_
  refine Ly (Y_eql rfl rfl) ?_
  refine Mv ?_
  refine L_known (d := 70) false rfl (by exact decide_eq_false (by exact c0)) ?_
  refine Skp ?_
  refine Skp ?_
  refine Skp ?_
  refine Skp ?_
  refine Skp ?_
  refine Skp ?_
  refine Skp ?_
  refine Skp ?_
  refine Skp ?_
  refine Skp ?_
  refine Ly (Y_pick_f rfl rfl) ?_
  refine Ly (Y_pick_f rfl rfl) ?_
  refine Mv ?_
  refine Mv ?_
  refine Ly (Y_neq rfl rfl) ?_
  refine Mv ?_
  refine L_known (d := 86) true rfl (by exact decide_eq_true (by exact fun q => c0 (by rw [← e0]; exact q))) ?_
  refine Mv ?_
  refine L_call (E_call (by kernel_rfl) rfl) (bl_Nodes (hK.ext (me9.trans ux8)) (hE.ext (me9.trans ux8)) (uBi.ext (me10.trans ux8)) (by omega)) rfl rfl rfl ?_
  rintro uv9 h21 ⟨uR9, uL9, uq9, ux9⟩
  refine Mv ?_
  have me12 := ((((ux2.trans uxj).trans ux4).trans ux5).trans hx11).trans ux8
  refine L_call (E_call (by kernel_rfl) rfl) (ref13_Same _ uv9 uR9 uL9 uv1 uR1 (uL1.ext (me12.trans ux9)) (by have := uq9.1; omega)) rfl rfl rfl ?_
  rintro _ h22 ⟨rfl, hx14⟩
  refine Ly (Y_not rfl) ?_
  refine Ly (Y_pick_t rfl rfl) ?_
  refine Ly (Y_pick_f rfl rfl) ?_
  refine Mv ?_
  refine L_known (d := 94) false rfl (by rw [bl_same uq9 uq1]; rfl) ?_
  refine Mv ?_
  refine L_call (E_call (by kernel_rfl) rfl) (bl_Nodes (hK.ext (((me9.trans ux8).trans ux9).trans hx14)) (hE.ext (((me9.trans ux8).trans ux9).trans hx14)) (uBi.ext (((me10.trans ux8).trans ux9).trans hx14)) (by omega)) rfl rfl rfl ?_
  rintro uv7 h23 ⟨uR7, uL7, uq7, ux7⟩
  refine Ly (Y_lenr Tryd.underlying32 rfl uL7) ?_
  refine Mv ?_
  refine Ly (Y_add rfl rfl (by omega) (by omega)) ?_
  refine Ly (Y_gtr rfl rfl) ?_
  refine Ly (Y_pick_f rfl rfl) ?_
  refine Nx ?_
  refine W_sub _ (tk6 101 21 20 3 0 22) ?_
  refine W_known false rfl (by exact decide_eq_false (by have := uq7.1; omega)) ?_
  refine W_skip (X_block (X_then ?_))
  refine W_sub _ (tk5 21 20 3 0 22) ?_
  refine W_region ?_
  refine Ly (Y_add rfl rfl (by omega) (by omega)) ?_
  refine Mv ?_
  refine L_nil ?_
  refine X_loop ((i + 1, N)) (tk5 21 20 3 0 22) ?_ ?_
  ·exact ⟨by omega, by omega, (uBi.ext ((((me10.trans ux8).trans ux9).trans hx14).trans ux7)), ((((me9.trans ux8).trans ux9).trans hx14).trans ux7)⟩
  (try dsimp only)
  omega
 refine W_exit ?_
 refine X_then_exit (X_then_exit ?_)
 refine X_block_hit ?_
 refine X_then ?_
 refine W_sub _ sN ?_
 refine Wr ?_
 refine L_call (E_call (by kernel_rfl) rfl) (law15_alive _ (hK.ext uxi) (hE.ext uxi)) rfl rfl rfl ?_
 rintro _ h24 ⟨rfl, hx15⟩
 refine Av ?_
 refine Nx ?_
 refine W_sub _ (tk1 2) ?_
 refine W_ret ?_
 refine X_ret1 rfl rfl ?_
 exact ⟨rfl, (uxi.trans hx15)⟩
end Go.Xp
