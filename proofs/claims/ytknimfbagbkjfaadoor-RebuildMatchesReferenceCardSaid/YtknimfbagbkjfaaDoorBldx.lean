/- Layer 15 (rebuild): the Builder and the reference's. -/
import Derived.Test.YtknimfbagbkjfaaDoorBldw
set_option linter.unusedSimpArgs false
set_option linter.unusedVariables false
set_option linter.unusedSectionVars false
namespace Go.Xp
open Go.Proofs

set_option maxRecDepth 100000 in
theorem builder_CheckNil (h : Heap) (k : Int) (p : List UInt8) (m : Int) (tg : List UInt8) (z : Int) : Cal Tryd.prog 13 #[.pointer none, .agg #[.int .i64 (k), str p, .int .i64 (m), str tg, .int .i64 (z)]] h (fun v h' => v = .int .i64 1 ∧ Ext h h') := by
 refine Cal_enter (args := [.pointer none, .agg #[.int .i64 (k), str p, .int .i64 (m), str tg, .int .i64 (z)]]) Tryd.func13 rfl rfl rfl (fun σ => ?_)
 refine Wr ?_
 refine L_mks (M_box rfl) rfl rfl rfl ?_
 rintro _ h1 ⟨rfl, hn1⟩
 have hk2 : Blk h1 h.size [.int .i64 (k), str p, .int .i64 (m), str tg, .int .i64 (z)] := hn1.blk
 refine Av ?_
 refine Nx ?_
 refine W_sub _ (tk3 4 3 0) ?_
 refine W_seq (W_seq (W_region ?_))
 refine Mv ?_
 refine Ly (Y_pnil (ad := none) (show _ = some (TypeDesc.pointer (Tryd.prog.pointee 23)) by kernel_rfl) rfl rfl) ?_
 refine Nx ?_
 refine W_sub _ (tk4 10 4 3 0) ?_
 refine W_true rfl ?_
 refine Wr ?_
 refine Av ?_
 refine Nx ?_
 refine W_sub _ (tk3 4 3 0) ?_
 refine W_ret (X_then_ret ?_)
 refine X_ret1 rfl rfl ?_
 exact ⟨rfl, hn1.ext⟩
set_option maxRecDepth 100000 in
theorem builder_AddNil (h : Heap) (k : Int) (p : List UInt8) (m : Int) (tg : List UInt8) (z : Int) : Cal Tryd.prog 12 #[.pointer none, .agg #[.int .i64 (k), str p, .int .i64 (m), str tg, .int .i64 (z), .slice none 0 0]] h (fun v h' => v = .int .i64 1 ∧ Ext h h') := by
 refine Cal_enter (args := [.pointer none, .agg #[.int .i64 (k), str p, .int .i64 (m), str tg, .int .i64 (z), .slice none 0 0]]) Tryd.func12 rfl rfl rfl (fun σ => ?_)
 refine Wr ?_
 refine L_mks (M_box rfl) rfl rfl rfl ?_
 rintro _ h1 ⟨rfl, hn1⟩
 have hk2 : Blk h1 h.size [.int .i64 (k), str p, .int .i64 (m), str tg, .int .i64 (z), .slice none 0 0] := hn1.blk
 refine Av ?_
 refine Nx ?_
 refine W_sub _ (tk3 4 3 0) ?_
 refine Wr ?_
 refine Ly (Y_fieldAddr (off := 0) (by kernel_rfl) rfl rfl) ?_
 refine Ly (Y_ldbox (us := [.int .i64 (k), str p, .int .i64 (m), str tg, .int .i64 (z)]) Tryd.underlying27 rfl (show _ = some 5 by kernel_rfl) rfl hk2 rfl) ?_
 refine L_mks (M_alloc (u := .agg #[.int .i64 0, str [], .int .i64 0, str [], .int .i64 0]) (by kernel_rfl)) rfl rfl rfl ?_
 rintro _ h2 ⟨rfl, hn3⟩
 have hk4 : Blk h2 h1.size [.int .i64 0, str [], .int .i64 0, str [], .int .i64 0] := hn3.blk
 refine L_dos (D_store (us := [.int .i64 (k), str p, .int .i64 (m), str tg, .int .i64 (z)]) (show _ = some 5 by kernel_rfl) rfl rfl rfl (by simp [Value.oneCell']) hk4 (by simp)) rfl rfl ?_
 rintro h3 hp5
 have hk6 : Blk h3 h1.size [.int .i64 (k), str p, .int .i64 (m), str tg, .int .i64 (z)] := hp5.blk
 refine Nx ?_
 refine W_sub _ (tk4 5 4 3 0) ?_
 refine W_seq (W_seq (W_region ?_))
 refine Mv ?_
 refine Ly (Y_ldbox (us := [.int .i64 (k), str p, .int .i64 (m), str tg, .int .i64 (z)]) Tryd.underlying27 rfl (show _ = some 5 by kernel_rfl) rfl hk6 rfl) ?_
 refine L_call (E_call (by kernel_rfl) rfl) (builder_CheckNil _ k p m tg z) rfl rfl rfl ?_
 rintro _ h4 ⟨rfl, ux1⟩
 refine Av ?_
 refine Nx ?_
 refine W_sub _ (tk5 6 5 4 3 0) ?_
 refine Wr ?_
 refine Mv ?_
 refine Ly (Y_neq rfl rfl) ?_
 refine Nx ?_
 refine W_sub _ (tk6 15 6 5 4 3 0) ?_
 refine W_known true rfl (by first | rfl | decide | simp) ?_
 refine Wr ?_
 refine Mv ?_
 refine Av ?_
 refine Nx ?_
 refine W_sub _ (tk4 4 5 3 0) ?_
 refine W_ret (X_then_ret ?_)
 refine X_ret1 rfl rfl ?_
 have me1 := (hn1.ext.trans hn3.ext).then' hp5.only (by simp) hn1.ext.size
 exact ⟨rfl, (me1.trans ux1)⟩
set_option maxRecDepth 100000 in
theorem builder_NodesNil (h : Heap) : Cal Tryd.prog 14 #[.pointer none] h (fun v h' => v = .slice none 0 0 ∧ Ext h h') := by
 refine Cal_enter (args := [.pointer none]) Tryd.func14 rfl rfl rfl (fun σ => ?_)
 refine Wr ?_
 refine Av ?_
 refine L_nil (X_then (W_seq (W_seq (W_region ?_))))
 refine Mv ?_
 refine Ly (Y_pnil (ad := none) (show _ = some (TypeDesc.pointer (Tryd.prog.pointee 23)) by kernel_rfl) rfl rfl) ?_
 refine Nx ?_
 refine W_sub _ (tk3 4 2 0) ?_
 refine W_true rfl ?_
 refine Wr ?_
 refine Av ?_
 refine Nx ?_
 refine W_sub _ (tk2 2 0) ?_
 refine W_ret (X_then_ret ?_)
 refine X_ret1 rfl rfl ?_
 exact ⟨rfl, (Ext.refl _)⟩
theorem wdv_sz {M : List Mem} {x : Mem} {dv : Value} (hs : ∀ x ∈ M, x.path.length ≤ 100000000000 ∧ x.target.length ≤ 100000000000 ∧ x.data.length ≤ 100000000000) (hx : x.path.length ≤ 100000000000 ∧ x.target.length ≤ 100000000000 ∧ x.data.length ≤ 100000000000) : ∀ y ∈ M ++ [wdv x dv], y.path.length ≤ 100000000000 ∧ y.target.length ≤ 100000000000 ∧ y.data.length ≤ 100000000000 := fun y hy => by
  rcases List.mem_append.1 hy with q | q
  · exact hs y q
  · rw [List.mem_singleton.1 q]; exact hx
set_option maxRecDepth 100000 in
theorem rebuildMatchesReference (h : Heap) (hK : GlbK h) (hE : GlbE h) (w : Value) (l : List Mem) (hl : Rows memS h w l) (hn : l.length ≤ 140737488355328) (hs : ∀ x ∈ l, x.path.length ≤ 140737488355328 ∧ x.target.length ≤ 140737488355328 ∧ x.data.length ≤ 140737488355328 ∧ -9223372036854775808 ≤ x.size ∧ x.size ≤ 9223372036854775807) : Cal Tryd.prog 3 #[w] h (fun v h' => v = .bool true ∧ Ext h h') := by
 refine Cal_enter (args := [w]) Tryd.func3 rfl rfl rfl (fun σ => ?_)
 refine Wr ?_
 refine Av ?_
 refine L_nil (X_then (W_seq (W_region ?_)))
 refine Av ?_
 refine L_nil (X_then (W_seq (W_seq (W_region ?_))))
 refine Mv ?_
 refine Ly (Y_build (v := .agg #[.int .i64 0, str [], .int .i64 0, str [], .int .i64 0, .slice none 0 0]) (pv := []) (evp (is := []) (os := []) (vs := []) rfl rfl) (fun _ => by kernel_rfl)) ?_
 refine L_call (E_call (by kernel_rfl) rfl) (builder_AddNil _ 0 [] 0 [] 0) rfl rfl rfl ?_
 rintro _ h1 ⟨rfl, ux1⟩
 refine Ly (Y_neq rfl rfl) ?_
 refine Mv ?_
 refine L_known (d := 12) false rfl (by first | rfl | decide | simp) ?_
 refine Mv ?_
 refine Ly (Y_build (v := .agg #[.int .i64 0, str [], .int .i64 0, str [], .int .i64 0]) (pv := []) (evp (is := []) (os := []) (vs := []) rfl rfl) (fun _ => by kernel_rfl)) ?_
 refine L_call (E_call (by kernel_rfl) rfl) (builder_CheckNil _ 0 [] 0 [] 0) rfl rfl rfl ?_
 rintro _ h2 ⟨rfl, ux2⟩
 refine Ly (Y_neq rfl rfl) ?_
 refine Ly (Y_pick_f rfl rfl) ?_
 refine Mv ?_
 refine L_known (d := 18) false rfl (by first | rfl | decide | simp) ?_
 refine Mv ?_
 refine L_call (E_call (by kernel_rfl) rfl) (builder_NodesNil _) rfl rfl rfl ?_
 rintro _ h3 ⟨rfl, ux3⟩
 refine Ly (Y_len Tryd.underlying32 rfl (Bytes.nil _)) ?_
 refine Ly (Y_neq rfl rfl) ?_
 refine Ly (Y_pick_f rfl rfl) ?_
 refine Nx ?_
 refine W_sub _ (tk3 23 2 0) ?_
 refine W_known false rfl (by exact decide_eq_false (by exact fun q => q rfl)) ?_
 refine Ws ?_
 refine W_sub _ (tk2 2 0) ?_
 refine W_seq (W_seq (W_region ?_))
 refine Mv ?_
 refine L_call (E_call (by kernel_rfl) rfl) (law15_TooLarge _ w l (hl.ext ((ux1.trans ux2).trans ux3)) hn (fun x hx => ⟨(hs x hx).1, (hs x hx).2.1, (hs x hx).2.2.1⟩)) rfl rfl rfl ?_
 rintro _ h4 ⟨rfl, hx1⟩
 refine Ly (Y_gtr rfl rfl) ?_
 refine Nx ?_
 refine W_sub _ (tk3 26 2 0) ?_
 refine W_splitd rfl (fun g => ?_) (fun g => ?_)
 ·refine Wr ?_
  refine L_call (E_call (by kernel_rfl) rfl) (law15_alive _ (hK.ext (((ux1.trans ux2).trans ux3).trans hx1)) (hE.ext (((ux1.trans ux2).trans ux3).trans hx1))) rfl rfl rfl ?_
  rintro _ h5 ⟨rfl, hx2⟩
  refine Av ?_
  refine Nx ?_
  refine W_sub _ (tk2 2 0) ?_
  refine W_ret (X_then_ret ?_)
  refine X_ret1 rfl rfl ?_
  exact ⟨rfl, ((((ux1.trans ux2).trans ux3).trans hx1).trans hx2)⟩
 refine Ws ?_
 refine W_sub _ (tk2 2 0) ?_
 have ok := mtoo_ok g
 refine Wr ?_
 refine L_call (E_call (by kernel_rfl) rfl) (bl_New _) rfl rfl rfl ?_
 rintro _ h6 ⟨b0, rfl, uB0, ux0⟩
 refine Ly (Y_build (v := .agg #[.slice none 0 0]) (pv := []) (evp (is := []) (os := []) (vs := []) rfl rfl) (fun _ => by kernel_rfl)) ?_
 refine L_mks (M_box rfl) rfl rfl rfl ?_
 rintro _ h7 ⟨rfl, hn3⟩
 have hk4 : Blk h7 h6.size [.slice none 0 0] := hn3.blk
 refine Av ?_
 refine Av ?_
 refine Nx ?_
 refine W_sub _ (tk4 5 4 2 0) ?_
 refine W_seq (W_seq (W_region ?_))
 refine Mv ?_
 refine Ly (Y_pnil (ad := some ⟨b0, 0, none⟩) (show _ = some (TypeDesc.pointer (Tryd.prog.pointee 23)) by kernel_rfl) rfl rfl) ?_
 refine Nx ?_
 refine W_sub _ (tk5 32 5 4 2 0) ?_
 refine W_false rfl ?_
 refine Ws ?_
 refine W_sub _ (tk4 5 4 2 0) ?_
 have uR0 : RAt h7 h6.size [] := ⟨_, 0, hk4, RowsO.nil _ _ _, fun _ => rfl, fun x hx => absurd hx List.not_mem_nil⟩
 have hcb : h4.size ≤ h6.size := ux0.size
 have hcc : h6.size < h7.size := Blk.lt hk4
 refine W_seq (W_seq (W_region ?_))
 refine Mv ?_
 have me1 := ((((ux1.trans ux2).trans ux3).trans hx1).trans ux0).trans hn3.ext
 refine Ly (Y_lenr Tryd.underlying22 rfl (hl.ext me1)) ?_
 refine Mv ?_
 refine Nx ?_
 refine W_sub _ (tk6 35 34 33 5 4 2) ?_
 refine W_block ?_
 refine W_loop (S := Nat × List Nod × List Mem) (fun (i, N, M) => [(34, .int .i64 ((l.length : Int))), (33, w), (5, .pointer (some ⟨h6.size, 0, none⟩)), (4, .pointer (some ⟨b0, 0, none⟩)), (35, .int .i64 ((i : Int)))]) (fun (i, N, M) h' => i ≤ l.length ∧ N.length ≤ i ∧ Sim N M ∧ (∀ x ∈ M, x.path.length ≤ 100000000000 ∧ x.target.length ≤ 100000000000 ∧ x.data.length ≤ 100000000000) ∧ BL h4 h' b0 N ∧ RAt h' h6.size M ∧ h7.size ≤ h'.size ∧ Ext h4 h') (fun (i, N, M) => l.length - i) (0, [], []) (tk5 34 33 5 4 35) ?_ ?_
 ·exact ⟨Nat.zero_le _, Nat.le_refl _, Sim.nil, fun x hx => absurd hx List.not_mem_nil, (uB0.ext hn3.ext), uR0, Nat.le_refl _, (ux0.trans hn3.ext)⟩
 rintro ⟨i, N, M⟩ h8 ⟨hi, hNi, hS, hsM, uBi, uRi, hCi, uxi⟩
 show W _ _ _ _ _ [(34, .int .i64 ((l.length : Int))), (33, w), (5, .pointer (some ⟨h6.size, 0, none⟩)), (4, .pointer (some ⟨b0, 0, none⟩)), (35, .int .i64 ((i : Int)))] _
 refine Wr ?_
 refine Ly (Y_lss rfl rfl) ?_
 refine L_nil (X_then (W_seq ?_))
 refine W_splitd rfl (fun c9 => ?_) (fun c9 => ?_)
 ·refine Ws ?_
  refine W_sub _ (tk5 34 33 5 4 35) ?_
  refine W_seq (W_block (W_seq (W_region ?_)))
  refine Ly (Y_idxr Tryd.underlying22 (show _ = some 6 by kernel_rfl) rfl rfl rfl (hl.ext ((((ux1.trans ux2).trans ux3).trans hx1).trans uxi)) (by omega) (by omega)) ?_
  refine Ly (Y_ldrA0 (k := ((i : Int)).toNat) (us := [.int .i64 ((at_mem l ((i : Int)).toNat).kind), str ((at_mem l ((i : Int)).toNat).path), .int .i64 ((at_mem l ((i : Int)).toNat).mode), str ((at_mem l ((i : Int)).toNat).target), .int .i64 ((at_mem l ((i : Int)).toNat).size), ((at_mem l ((i : Int)).toNat).dv)]) Tryd.underlying30 rfl (show _ = some 6 by kernel_rfl) rfl rfl (hl.ext ((((ux1.trans ux2).trans ux3).trans hx1).trans uxi)) (by omega) rfl) ?_
  refine L_mks (M_alloc (u := .agg #[.int .i64 0, str [], .int .i64 0, str [], .int .i64 0, .slice none 0 0]) (by kernel_rfl)) rfl rfl rfl ?_
  rintro _ h9 ⟨rfl, hn5⟩
  have hk6 : Blk h9 h8.size [.int .i64 0, str [], .int .i64 0, str [], .int .i64 0, .slice none 0 0] := hn5.blk
  have me2 := ((((ux1.trans ux2).trans ux3).trans hx1).trans uxi).trans hn5.ext
  refine L_dos (D_store (us := [.int .i64 ((at_mem l ((i : Int)).toNat).kind), str ((at_mem l ((i : Int)).toNat).path), .int .i64 ((at_mem l ((i : Int)).toNat).mode), str ((at_mem l ((i : Int)).toNat).target), .int .i64 ((at_mem l ((i : Int)).toNat).size), ((at_mem l ((i : Int)).toNat).dv)]) (show _ = some 6 by kernel_rfl) rfl rfl rfl (by intro u_ hu_; simp only [List.mem_cons, List.not_mem_nil, or_false] at hu_; rcases hu_ with rfl | rfl | rfl | rfl | rfl | rfl <;> first | rfl | exact ((show Bytes _ ((at_mem l ((i : Int)).toNat).dv) ((at_mem l ((i : Int)).toNat).data) from (hl.ext me2).okat (k := ((i : Int)).toNat) (by omega))).cell1) hk6 (by simp)) rfl rfl ?_
  rintro h10 hp7
  have hk8 : Blk h10 h8.size [.int .i64 ((at_mem l ((i : Int)).toNat).kind), str ((at_mem l ((i : Int)).toNat).path), .int .i64 ((at_mem l ((i : Int)).toNat).mode), str ((at_mem l ((i : Int)).toNat).target), .int .i64 ((at_mem l ((i : Int)).toNat).size), ((at_mem l ((i : Int)).toNat).dv)] := hp7.blk
  refine Nx ?_
  refine W_sub _ (tk6 7 34 33 5 4 35) ?_
  have hX := ok.2 _ (bm_mem (l := l) (k := ((i : Int)).toNat) (by omega))
  have hXl := bm_mem (l := l) (k := ((i : Int)).toNat) (by omega)
  have hML := hS.len
  have hce := hS.chkm (at_mem l ((i : Int)).toNat)
  have hee := hS.errm (at_mem l ((i : Int)).toNat)
  refine W_seq ?_
  by_cases e0 : berr N (at_mem l ((i : Int)).toNat) = 0
  ·refine W_held (fun h' => Blk h' h8.size [.int .i64 ((at_mem l ((i : Int)).toNat).kind), str ((at_mem l ((i : Int)).toNat).path), .int .i64 ((at_mem l ((i : Int)).toNat).mode), str ((at_mem l ((i : Int)).toNat).target), .int .i64 ((at_mem l ((i : Int)).toNat).size), ((at_mem l ((i : Int)).toNat).dv)]) 26 rfl (by kernel_rfl) ?_
   refine LH_take (i := 0) rfl (fun h_ hI_ => Y_move rfl) rfl rfl rfl (by kernel_rfl) (by kernel_rfl) (by kernel_rfl) (fun _ _ _ => by rintro ⟨_, _, h_, _⟩; cases h_) hk8 ?_
   refine LH_take (i := 1) rfl (fun h_ hI_ => Y_fieldAddr (off := 0) (by kernel_rfl) rfl rfl) rfl rfl rfl (by kernel_rfl) (by kernel_rfl) (by kernel_rfl) (fun _ _ _ => by rintro ⟨_, _, h_, _⟩; cases h_) hk8 ?_
   refine LH_take (i := 2) rfl (fun h_ hI_ => Y_ldbox (us := [.int .i64 ((at_mem l ((i : Int)).toNat).kind), str ((at_mem l ((i : Int)).toNat).path), .int .i64 ((at_mem l ((i : Int)).toNat).mode), str ((at_mem l ((i : Int)).toNat).target), .int .i64 ((at_mem l ((i : Int)).toNat).size)]) Tryd.underlying27 rfl (show _ = some 5 by kernel_rfl) rfl hI_ rfl) rfl rfl rfl (by kernel_rfl) (by kernel_rfl) (by kernel_rfl) (fun _ _ _ => by rintro ⟨_, _, h_, _⟩; cases h_) hk8 ?_
   refine LH_take (i := 4) rfl (fun h_ hI_ => Y_move rfl) rfl rfl rfl (by kernel_rfl) (by kernel_rfl) (by kernel_rfl) (fun _ _ _ => by rintro ⟨_, _, h_, _⟩; cases h_) hk8 ?_
   refine LH_take (i := 5) rfl (fun h_ hI_ => Y_fieldAddr (off := 0) (by kernel_rfl) rfl rfl) rfl rfl rfl (by kernel_rfl) (by kernel_rfl) (by kernel_rfl) (fun _ _ _ => by rintro ⟨_, _, h_, _⟩; cases h_) hk8 ?_
   refine LH_take (i := 6) rfl (fun h_ hI_ => Y_ldbox (us := [.int .i64 ((at_mem l ((i : Int)).toNat).kind), str ((at_mem l ((i : Int)).toNat).path), .int .i64 ((at_mem l ((i : Int)).toNat).mode), str ((at_mem l ((i : Int)).toNat).target), .int .i64 ((at_mem l ((i : Int)).toNat).size)]) Tryd.underlying27 rfl (show _ = some 5 by kernel_rfl) rfl hI_ rfl) rfl rfl rfl (by kernel_rfl) (by kernel_rfl) (by kernel_rfl) (fun _ _ _ => by rintro ⟨_, _, h_, _⟩; cases h_) hk8 ?_
   refine LH_one (i := 3) (by kernel_rfl) ?_
   refine LO_call (i := 3) rfl (E_call (by kernel_rfl) rfl) (bl_CheckM (hK.ext ((((((ux1.trans ux2).trans ux3).trans hx1).trans uxi).trans hn5.ext).then' hp7.only (by simp) (Nat.le_trans (Nat.le_trans (Nat.le_trans (Nat.le_trans ux1.size ux2.size) ux3.size) hx1.size) uxi.size))) (hE.ext ((((((ux1.trans ux2).trans ux3).trans hx1).trans uxi).trans hn5.ext).then' hp7.only (by simp) (Nat.le_trans (Nat.le_trans (Nat.le_trans (Nat.le_trans ux1.size ux2.size) ux3.size) hx1.size) uxi.size))) (uBi.ext (hn5.ext.then' hp7.only (by simp) (Nat.le_refl _))) (at_mem l ((i : Int)).toNat) (by omega) hX) rfl rfl rfl ?_
   rintro _ h11 ⟨rfl, ux4⟩
   refine ⟨(hk8.ext ux4), ?_⟩
   refine LH_one (i := 7) (by kernel_rfl) ?_
   refine LO_call (i := 7) rfl (E_call (by kernel_rfl) rfl) (rl_Check (hK.ext (((((((ux1.trans ux2).trans ux3).trans hx1).trans uxi).trans hn5.ext).then' hp7.only (by simp) (Nat.le_trans (Nat.le_trans (Nat.le_trans (Nat.le_trans ux1.size ux2.size) ux3.size) hx1.size) uxi.size)).trans ux4)) (hE.ext (((((((ux1.trans ux2).trans ux3).trans hx1).trans uxi).trans hn5.ext).then' hp7.only (by simp) (Nat.le_trans (Nat.le_trans (Nat.le_trans (Nat.le_trans ux1.size ux2.size) ux3.size) hx1.size) uxi.size)).trans ux4)) (uRi.ext ((hn5.ext.then' hp7.only (by simp) (Nat.le_refl _)).trans ux4)) (at_mem l ((i : Int)).toNat) (by omega) hsM hX) rfl rfl rfl ?_
   rintro _ h12 ⟨rfl, ux5⟩
   refine ⟨(hk8.ext (ux4.trans ux5)), ?_⟩
   refine LH_take (i := 8) rfl (fun h_ hI_ => Y_neq rfl rfl) rfl rfl rfl (by kernel_rfl) (by kernel_rfl) (by kernel_rfl) (fun _ _ _ => by rintro ⟨_, _, h_, _⟩; cases h_) (hk8.ext (ux4.trans ux5)) ?_
   refine LH_take (i := 9) rfl (fun h_ hI_ => Y_move rfl) rfl rfl rfl (by kernel_rfl) (by kernel_rfl) (by kernel_rfl) (fun _ _ _ => by rintro ⟨_, _, h_, _⟩; cases h_) (hk8.ext (ux4.trans ux5)) ?_
   refine LH_known (d := 48) false rfl (by exact decide_eq_false (by exact fun q => q hce)) ?_
   refine LH_take (i := 10) rfl (fun h_ hI_ => Y_move rfl) rfl rfl rfl (by kernel_rfl) (by kernel_rfl) (by kernel_rfl) (fun _ _ _ => by rintro ⟨_, _, h_, _⟩; cases h_) (hk8.ext (ux4.trans ux5)) ?_
   refine LH_take (i := 11) rfl (fun h_ hI_ => Y_ldbox (us := [.int .i64 ((at_mem l ((i : Int)).toNat).kind), str ((at_mem l ((i : Int)).toNat).path), .int .i64 ((at_mem l ((i : Int)).toNat).mode), str ((at_mem l ((i : Int)).toNat).target), .int .i64 ((at_mem l ((i : Int)).toNat).size), ((at_mem l ((i : Int)).toNat).dv)]) Tryd.underlying30 rfl (show _ = some 6 by kernel_rfl) rfl hI_ rfl) rfl rfl rfl (by kernel_rfl) (by kernel_rfl) (by kernel_rfl) (fun _ _ _ => by rintro ⟨_, _, h_, _⟩; cases h_) (hk8.ext (ux4.trans ux5)) ?_
   refine LH_take (i := 13) rfl (fun h_ hI_ => Y_move rfl) rfl rfl rfl (by kernel_rfl) (by kernel_rfl) (by kernel_rfl) (fun _ _ _ => by rintro ⟨_, _, h_, _⟩; cases h_) (hk8.ext (ux4.trans ux5)) ?_
   refine LH_take (i := 14) rfl (fun h_ hI_ => Y_ldbox (us := [.int .i64 ((at_mem l ((i : Int)).toNat).kind), str ((at_mem l ((i : Int)).toNat).path), .int .i64 ((at_mem l ((i : Int)).toNat).mode), str ((at_mem l ((i : Int)).toNat).target), .int .i64 ((at_mem l ((i : Int)).toNat).size), ((at_mem l ((i : Int)).toNat).dv)]) Tryd.underlying30 rfl (show _ = some 6 by kernel_rfl) rfl hI_ rfl) rfl rfl rfl (by kernel_rfl) (by kernel_rfl) (by kernel_rfl) (fun _ _ _ => by rintro ⟨_, _, h_, _⟩; cases h_) (hk8.ext (ux4.trans ux5)) ?_
   refine LH_one (i := 12) (by kernel_rfl) ?_
   refine LO_call (i := 12) rfl (E_call (by kernel_rfl) rfl) (bl_AddR (hK.ext ((((((((ux1.trans ux2).trans ux3).trans hx1).trans uxi).trans hn5.ext).then' hp7.only (by simp) (Nat.le_trans (Nat.le_trans (Nat.le_trans (Nat.le_trans ux1.size ux2.size) ux3.size) hx1.size) uxi.size)).trans ux4).trans ux5)) (hE.ext ((((((((ux1.trans ux2).trans ux3).trans hx1).trans uxi).trans hn5.ext).then' hp7.only (by simp) (Nat.le_trans (Nat.le_trans (Nat.le_trans (Nat.le_trans ux1.size ux2.size) ux3.size) hx1.size) uxi.size)).trans ux4).trans ux5)) uBi (((hn5.ext.then' hp7.only (by simp) (Nat.le_refl _)).trans ux4).trans ux5) ((((uxi.trans hn5.ext).then' hp7.only (by simp) uxi.size).trans ux4).trans ux5) (at_mem l ((i : Int)).toNat) ((hl.ext ((((((((ux1.trans ux2).trans ux3).trans hx1).trans uxi).trans hn5.ext).then' hp7.only (by simp) (Nat.le_trans (Nat.le_trans (Nat.le_trans (Nat.le_trans ux1.size ux2.size) ux3.size) hx1.size) uxi.size)).trans ux4).trans ux5)).2 _ hXl) (by omega) hX e0) rfl rfl rfl ?_
   rintro _ h13 ⟨rfl, ⟨us6, uy6, ug6, ul6⟩, ⟨d6, uB6⟩, um6⟩
   have hc9 := (((hk8.ext ux4).ext ux5).only uy6 (fun hb_ => Nat.lt_irrefl _ (Nat.lt_of_lt_of_le (ul6 _ hb_) (Nat.le_refl _))))
   refine ⟨hc9, ?_⟩
   have uR6 := um6 _ _ (uRi.ext (((hn5.ext.then' hp7.only (by simp) (Nat.le_refl _)).trans ux4).trans ux5))
   refine LH_one (i := 15) (by kernel_rfl) ?_
   refine LO_call (i := 15) rfl (E_call (by kernel_rfl) rfl) (rl_Add (hK.ext (((((((((ux1.trans ux2).trans ux3).trans hx1).trans uxi).trans hn5.ext).then' hp7.only (by simp) (Nat.le_trans (Nat.le_trans (Nat.le_trans (Nat.le_trans ux1.size ux2.size) ux3.size) hx1.size) uxi.size)).trans ux4).trans ux5).then' uy6 ug6 (Nat.le_trans (Nat.le_trans (Nat.le_trans ux1.size ux2.size) ux3.size) hx1.size))) (hE.ext (((((((((ux1.trans ux2).trans ux3).trans hx1).trans uxi).trans hn5.ext).then' hp7.only (by simp) (Nat.le_trans (Nat.le_trans (Nat.le_trans (Nat.le_trans ux1.size ux2.size) ux3.size) hx1.size) uxi.size)).trans ux4).trans ux5).then' uy6 ug6 (Nat.le_trans (Nat.le_trans (Nat.le_trans ux1.size ux2.size) ux3.size) hx1.size))) uR6 (Nat.lt_of_lt_of_le hcc hCi) hcb (at_mem l ((i : Int)).toNat) ((hl.ext (((((((((ux1.trans ux2).trans ux3).trans hx1).trans uxi).trans hn5.ext).then' hp7.only (by simp) (Nat.le_trans (Nat.le_trans (Nat.le_trans (Nat.le_trans ux1.size ux2.size) ux3.size) hx1.size) uxi.size)).trans ux4).trans ux5).then' uy6 ug6 (Nat.le_trans (Nat.le_trans (Nat.le_trans ux1.size ux2.size) ux3.size) hx1.size))).2 _ hXl) (by omega) hsM hX (by rw [← hee]; exact e0)) rfl rfl rfl ?_
   rintro _ h14 ⟨rfl, ⟨us7, uy7, ug7, ul7⟩, ⟨d7, uR7⟩, um7⟩
   have hc10 := (hc9.only uy7 (fun hb_ => Nat.lt_irrefl _ (Nat.lt_of_lt_of_le (ul7 _ hb_) (Nat.le_refl _))))
   refine ⟨hc10, ?_⟩
   have uB7 := um7 _ _ _ uB6
   refine LH_take (i := 16) rfl (fun h_ hI_ => Y_neq rfl rfl) rfl rfl rfl (by kernel_rfl) (by kernel_rfl) (by kernel_rfl) (fun _ _ _ => by rintro ⟨_, _, h_, _⟩; cases h_) hc10 ?_
   refine LH_take (i := 17) rfl (fun h_ hI_ => Y_pick_f rfl rfl) rfl rfl rfl (by kernel_rfl) (by kernel_rfl) (by kernel_rfl) (fun _ _ _ => by rintro ⟨_, _, h_, _⟩; cases h_) hc10 ?_
   refine LH_take (i := 18) rfl (fun h_ hI_ => Y_move rfl) rfl rfl rfl (by kernel_rfl) (by kernel_rfl) (by kernel_rfl) (fun _ _ _ => by rintro ⟨_, _, h_, _⟩; cases h_) hc10 ?_
   refine LH_known (d := 57) false rfl (by exact decide_eq_false (by exact fun q => q hee)) ?_
   refine LH_take (i := 19) rfl (fun h_ hI_ => Y_move rfl) rfl rfl rfl (by kernel_rfl) (by kernel_rfl) (by kernel_rfl) (fun _ _ _ => by rintro ⟨_, _, h_, _⟩; cases h_) hc10 ?_
   refine LH_take (i := 21) rfl (fun h_ hI_ => Y_move rfl) rfl rfl rfl (by kernel_rfl) (by kernel_rfl) (by kernel_rfl) (fun _ _ _ => by rintro ⟨_, _, h_, _⟩; cases h_) hc10 ?_
   refine LH_one (i := 20) (by kernel_rfl) ?_
   refine LO_call (i := 20) rfl (E_call (by kernel_rfl) rfl) (bl_NodesR (hK.ext ((((((((((ux1.trans ux2).trans ux3).trans hx1).trans uxi).trans hn5.ext).then' hp7.only (by simp) (Nat.le_trans (Nat.le_trans (Nat.le_trans (Nat.le_trans ux1.size ux2.size) ux3.size) hx1.size) uxi.size)).trans ux4).trans ux5).then' uy6 ug6 (Nat.le_trans (Nat.le_trans (Nat.le_trans ux1.size ux2.size) ux3.size) hx1.size)).then' uy7 ug7 (Nat.le_trans (Nat.le_trans (Nat.le_trans ux1.size ux2.size) ux3.size) hx1.size))) (hE.ext ((((((((((ux1.trans ux2).trans ux3).trans hx1).trans uxi).trans hn5.ext).then' hp7.only (by simp) (Nat.le_trans (Nat.le_trans (Nat.le_trans (Nat.le_trans ux1.size ux2.size) ux3.size) hx1.size) uxi.size)).trans ux4).trans ux5).then' uy6 ug6 (Nat.le_trans (Nat.le_trans (Nat.le_trans ux1.size ux2.size) ux3.size) hx1.size)).then' uy7 ug7 (Nat.le_trans (Nat.le_trans (Nat.le_trans ux1.size ux2.size) ux3.size) hx1.size))) uB7 (by simp; omega)) rfl rfl rfl ?_
   rintro uv8 h15 ⟨uL8, ux8⟩
   refine ⟨(hc10.ext ux8), ?_⟩
   refine LH_one (i := 22) (by kernel_rfl) ?_
   refine LO_call (i := 22) rfl (E_call (by kernel_rfl) rfl) (rl_Nodes (hK.ext (((((((((((ux1.trans ux2).trans ux3).trans hx1).trans uxi).trans hn5.ext).then' hp7.only (by simp) (Nat.le_trans (Nat.le_trans (Nat.le_trans (Nat.le_trans ux1.size ux2.size) ux3.size) hx1.size) uxi.size)).trans ux4).trans ux5).then' uy6 ug6 (Nat.le_trans (Nat.le_trans (Nat.le_trans ux1.size ux2.size) ux3.size) hx1.size)).then' uy7 ug7 (Nat.le_trans (Nat.le_trans (Nat.le_trans ux1.size ux2.size) ux3.size) hx1.size)).trans ux8)) (hE.ext (((((((((((ux1.trans ux2).trans ux3).trans hx1).trans uxi).trans hn5.ext).then' hp7.only (by simp) (Nat.le_trans (Nat.le_trans (Nat.le_trans (Nat.le_trans ux1.size ux2.size) ux3.size) hx1.size) uxi.size)).trans ux4).trans ux5).then' uy6 ug6 (Nat.le_trans (Nat.le_trans (Nat.le_trans ux1.size ux2.size) ux3.size) hx1.size)).then' uy7 ug7 (Nat.le_trans (Nat.le_trans (Nat.le_trans ux1.size ux2.size) ux3.size) hx1.size)).trans ux8)) (uR7.ext ux8) (by simp; omega) (wdv_sz hsM hX) (hS.add e0 d6 d7)) rfl rfl rfl ?_
   rintro uv9 h16 ⟨uL9, ux9⟩
   refine ⟨(hc10.ext (ux8.trans ux9)), ?_⟩
   refine LH_one (i := 23) (by kernel_rfl) ?_
   refine LO_call (i := 23) rfl (E_call (by kernel_rfl) rfl) (ref13_SameC (uL8.ext ux9) uL9 (by simp; omega) (hS.add e0 d6 d7).nodes.symm) rfl rfl rfl ?_
   rintro _ h17 ⟨rfl, ux10⟩
   refine ⟨(hc10.ext ((ux8.trans ux9).trans ux10)), ?_⟩
   refine LH_take (i := 24) rfl (fun h_ hI_ => Y_not rfl) rfl rfl rfl (by kernel_rfl) (by kernel_rfl) (by kernel_rfl) (fun _ _ _ => by rintro ⟨_, _, h_, _⟩; cases h_) (hc10.ext ((ux8.trans ux9).trans ux10)) ?_
   refine LH_take (i := 25) rfl (fun h_ hI_ => Y_pick_f rfl rfl) rfl rfl rfl (by kernel_rfl) (by kernel_rfl) (by kernel_rfl) (fun _ _ _ => by rintro ⟨_, _, h_, _⟩; cases h_) (hc10.ext ((ux8.trans ux9).trans ux10)) ?_
   refine LH_done (by kernel_rfl) ?_
   refine X_then ?_
   refine W_sub _ (tk6 64 34 33 5 4 35) ?_
   refine W_false rfl ?_
   refine W_skip (X_block (X_then ?_))
   refine W_sub _ (tk5 34 33 5 4 35) ?_
   refine W_region ?_
   refine Ly (Y_add rfl rfl (by omega) (by omega)) ?_
   refine Mv ?_
   refine L_nil ?_
   refine X_loop ((i + 1, N ++ [bnod N (at_mem l ((i : Int)).toNat) d6], M ++ [wdv (at_mem l ((i : Int)).toNat) d7])) (tk5 34 33 5 4 35) ?_ ?_
   ·exact ⟨by omega, by simp; omega, hS.add e0 d6 d7, wdv_sz hsM hX, (uB7.ext ((ux8.trans ux9).trans ux10)), (uR7.ext ((ux8.trans ux9).trans ux10)), Nat.le_trans hCi (Nat.le_trans (Nat.le_trans (Nat.le_trans (Nat.le_trans (Nat.le_trans (Nat.le_trans (Nat.le_trans (Nat.le_trans hn5.ext.size hp7.only.size) ux4.size) ux5.size) uy6.size) uy7.size) ux8.size) ux9.size) ux10.size), (((((((((uxi.trans hn5.ext).then' hp7.only (by simp) uxi.size).trans ux4).trans ux5).then' uy6 ug6 (Nat.le_refl _)).then' uy7 ug7 (Nat.le_refl _)).trans ux8).trans ux9).trans ux10)⟩
   (try dsimp only)
   omega
  refine W_held (fun h' => Blk h' h8.size [.int .i64 ((at_mem l ((i : Int)).toNat).kind), str ((at_mem l ((i : Int)).toNat).path), .int .i64 ((at_mem l ((i : Int)).toNat).mode), str ((at_mem l ((i : Int)).toNat).target), .int .i64 ((at_mem l ((i : Int)).toNat).size), ((at_mem l ((i : Int)).toNat).dv)]) 26 rfl (by kernel_rfl) ?_
  refine LH_take (i := 0) rfl (fun h_ hI_ => Y_move rfl) rfl rfl rfl (by kernel_rfl) (by kernel_rfl) (by kernel_rfl) (fun _ _ _ => by rintro ⟨_, _, h_, _⟩; cases h_) hk8 ?_
  refine LH_take (i := 1) rfl (fun h_ hI_ => Y_fieldAddr (off := 0) (by kernel_rfl) rfl rfl) rfl rfl rfl (by kernel_rfl) (by kernel_rfl) (by kernel_rfl) (fun _ _ _ => by rintro ⟨_, _, h_, _⟩; cases h_) hk8 ?_
  refine LH_take (i := 2) rfl (fun h_ hI_ => Y_ldbox (us := [.int .i64 ((at_mem l ((i : Int)).toNat).kind), str ((at_mem l ((i : Int)).toNat).path), .int .i64 ((at_mem l ((i : Int)).toNat).mode), str ((at_mem l ((i : Int)).toNat).target), .int .i64 ((at_mem l ((i : Int)).toNat).size)]) Tryd.underlying27 rfl (show _ = some 5 by kernel_rfl) rfl hI_ rfl) rfl rfl rfl (by kernel_rfl) (by kernel_rfl) (by kernel_rfl) (fun _ _ _ => by rintro ⟨_, _, h_, _⟩; cases h_) hk8 ?_
  refine LH_take (i := 4) rfl (fun h_ hI_ => Y_move rfl) rfl rfl rfl (by kernel_rfl) (by kernel_rfl) (by kernel_rfl) (fun _ _ _ => by rintro ⟨_, _, h_, _⟩; cases h_) hk8 ?_
  refine LH_take (i := 5) rfl (fun h_ hI_ => Y_fieldAddr (off := 0) (by kernel_rfl) rfl rfl) rfl rfl rfl (by kernel_rfl) (by kernel_rfl) (by kernel_rfl) (fun _ _ _ => by rintro ⟨_, _, h_, _⟩; cases h_) hk8 ?_
  refine LH_take (i := 6) rfl (fun h_ hI_ => Y_ldbox (us := [.int .i64 ((at_mem l ((i : Int)).toNat).kind), str ((at_mem l ((i : Int)).toNat).path), .int .i64 ((at_mem l ((i : Int)).toNat).mode), str ((at_mem l ((i : Int)).toNat).target), .int .i64 ((at_mem l ((i : Int)).toNat).size)]) Tryd.underlying27 rfl (show _ = some 5 by kernel_rfl) rfl hI_ rfl) rfl rfl rfl (by kernel_rfl) (by kernel_rfl) (by kernel_rfl) (fun _ _ _ => by rintro ⟨_, _, h_, _⟩; cases h_) hk8 ?_
  refine LH_one (i := 3) (by kernel_rfl) ?_
  refine LO_call (i := 3) rfl (E_call (by kernel_rfl) rfl) (bl_CheckM (hK.ext ((((((ux1.trans ux2).trans ux3).trans hx1).trans uxi).trans hn5.ext).then' hp7.only (by simp) (Nat.le_trans (Nat.le_trans (Nat.le_trans (Nat.le_trans ux1.size ux2.size) ux3.size) hx1.size) uxi.size))) (hE.ext ((((((ux1.trans ux2).trans ux3).trans hx1).trans uxi).trans hn5.ext).then' hp7.only (by simp) (Nat.le_trans (Nat.le_trans (Nat.le_trans (Nat.le_trans ux1.size ux2.size) ux3.size) hx1.size) uxi.size))) (uBi.ext (hn5.ext.then' hp7.only (by simp) (Nat.le_refl _))) (at_mem l ((i : Int)).toNat) (by omega) hX) rfl rfl rfl ?_
  rintro _ h18 ⟨rfl, ux4⟩
  refine ⟨(hk8.ext ux4), ?_⟩
  refine LH_one (i := 7) (by kernel_rfl) ?_
  refine LO_call (i := 7) rfl (E_call (by kernel_rfl) rfl) (rl_Check (hK.ext (((((((ux1.trans ux2).trans ux3).trans hx1).trans uxi).trans hn5.ext).then' hp7.only (by simp) (Nat.le_trans (Nat.le_trans (Nat.le_trans (Nat.le_trans ux1.size ux2.size) ux3.size) hx1.size) uxi.size)).trans ux4)) (hE.ext (((((((ux1.trans ux2).trans ux3).trans hx1).trans uxi).trans hn5.ext).then' hp7.only (by simp) (Nat.le_trans (Nat.le_trans (Nat.le_trans (Nat.le_trans ux1.size ux2.size) ux3.size) hx1.size) uxi.size)).trans ux4)) (uRi.ext ((hn5.ext.then' hp7.only (by simp) (Nat.le_refl _)).trans ux4)) (at_mem l ((i : Int)).toNat) (by omega) hsM hX) rfl rfl rfl ?_
  rintro _ h19 ⟨rfl, ux5⟩
  refine ⟨(hk8.ext (ux4.trans ux5)), ?_⟩
  refine LH_take (i := 8) rfl (fun h_ hI_ => Y_neq rfl rfl) rfl rfl rfl (by kernel_rfl) (by kernel_rfl) (by kernel_rfl) (fun _ _ _ => by rintro ⟨_, _, h_, _⟩; cases h_) (hk8.ext (ux4.trans ux5)) ?_
  refine LH_take (i := 9) rfl (fun h_ hI_ => Y_move rfl) rfl rfl rfl (by kernel_rfl) (by kernel_rfl) (by kernel_rfl) (fun _ _ _ => by rintro ⟨_, _, h_, _⟩; cases h_) (hk8.ext (ux4.trans ux5)) ?_
  refine LH_known (d := 48) false rfl (by exact decide_eq_false (by exact fun q => q hce)) ?_
  refine LH_take (i := 10) rfl (fun h_ hI_ => Y_move rfl) rfl rfl rfl (by kernel_rfl) (by kernel_rfl) (by kernel_rfl) (fun _ _ _ => by rintro ⟨_, _, h_, _⟩; cases h_) (hk8.ext (ux4.trans ux5)) ?_
  refine LH_take (i := 11) rfl (fun h_ hI_ => Y_ldbox (us := [.int .i64 ((at_mem l ((i : Int)).toNat).kind), str ((at_mem l ((i : Int)).toNat).path), .int .i64 ((at_mem l ((i : Int)).toNat).mode), str ((at_mem l ((i : Int)).toNat).target), .int .i64 ((at_mem l ((i : Int)).toNat).size), ((at_mem l ((i : Int)).toNat).dv)]) Tryd.underlying30 rfl (show _ = some 6 by kernel_rfl) rfl hI_ rfl) rfl rfl rfl (by kernel_rfl) (by kernel_rfl) (by kernel_rfl) (fun _ _ _ => by rintro ⟨_, _, h_, _⟩; cases h_) (hk8.ext (ux4.trans ux5)) ?_
  refine LH_take (i := 13) rfl (fun h_ hI_ => Y_move rfl) rfl rfl rfl (by kernel_rfl) (by kernel_rfl) (by kernel_rfl) (fun _ _ _ => by rintro ⟨_, _, h_, _⟩; cases h_) (hk8.ext (ux4.trans ux5)) ?_
  refine LH_take (i := 14) rfl (fun h_ hI_ => Y_ldbox (us := [.int .i64 ((at_mem l ((i : Int)).toNat).kind), str ((at_mem l ((i : Int)).toNat).path), .int .i64 ((at_mem l ((i : Int)).toNat).mode), str ((at_mem l ((i : Int)).toNat).target), .int .i64 ((at_mem l ((i : Int)).toNat).size), ((at_mem l ((i : Int)).toNat).dv)]) Tryd.underlying30 rfl (show _ = some 6 by kernel_rfl) rfl hI_ rfl) rfl rfl rfl (by kernel_rfl) (by kernel_rfl) (by kernel_rfl) (fun _ _ _ => by rintro ⟨_, _, h_, _⟩; cases h_) (hk8.ext (ux4.trans ux5)) ?_
  refine LH_one (i := 12) (by kernel_rfl) ?_
  refine LO_call (i := 12) rfl (E_call (by kernel_rfl) rfl) (bl_AddN (hK.ext ((((((((ux1.trans ux2).trans ux3).trans hx1).trans uxi).trans hn5.ext).then' hp7.only (by simp) (Nat.le_trans (Nat.le_trans (Nat.le_trans (Nat.le_trans ux1.size ux2.size) ux3.size) hx1.size) uxi.size)).trans ux4).trans ux5)) (hE.ext ((((((((ux1.trans ux2).trans ux3).trans hx1).trans uxi).trans hn5.ext).then' hp7.only (by simp) (Nat.le_trans (Nat.le_trans (Nat.le_trans (Nat.le_trans ux1.size ux2.size) ux3.size) hx1.size) uxi.size)).trans ux4).trans ux5)) (uBi.ext (((hn5.ext.then' hp7.only (by simp) (Nat.le_refl _)).trans ux4).trans ux5)) ((((uxi.trans hn5.ext).then' hp7.only (by simp) uxi.size).trans ux4).trans ux5) (at_mem l ((i : Int)).toNat) ((hl.ext ((((((((ux1.trans ux2).trans ux3).trans hx1).trans uxi).trans hn5.ext).then' hp7.only (by simp) (Nat.le_trans (Nat.le_trans (Nat.le_trans (Nat.le_trans ux1.size ux2.size) ux3.size) hx1.size) uxi.size)).trans ux4).trans ux5)).2 _ hXl) (by omega) hX e0) rfl rfl rfl ?_
  rintro _ h20 ⟨rfl, ux6⟩
  refine ⟨(hk8.ext ((ux4.trans ux5).trans ux6)), ?_⟩
  refine LH_one (i := 15) (by kernel_rfl) ?_
  refine LO_call (i := 15) rfl (E_call (by kernel_rfl) rfl) (rl_AddN (hK.ext (((((((((ux1.trans ux2).trans ux3).trans hx1).trans uxi).trans hn5.ext).then' hp7.only (by simp) (Nat.le_trans (Nat.le_trans (Nat.le_trans (Nat.le_trans ux1.size ux2.size) ux3.size) hx1.size) uxi.size)).trans ux4).trans ux5).trans ux6)) (hE.ext (((((((((ux1.trans ux2).trans ux3).trans hx1).trans uxi).trans hn5.ext).then' hp7.only (by simp) (Nat.le_trans (Nat.le_trans (Nat.le_trans (Nat.le_trans ux1.size ux2.size) ux3.size) hx1.size) uxi.size)).trans ux4).trans ux5).trans ux6)) (uRi.ext ((((hn5.ext.then' hp7.only (by simp) (Nat.le_refl _)).trans ux4).trans ux5).trans ux6)) (at_mem l ((i : Int)).toNat) ((hl.ext (((((((((ux1.trans ux2).trans ux3).trans hx1).trans uxi).trans hn5.ext).then' hp7.only (by simp) (Nat.le_trans (Nat.le_trans (Nat.le_trans (Nat.le_trans ux1.size ux2.size) ux3.size) hx1.size) uxi.size)).trans ux4).trans ux5).trans ux6)).2 _ hXl) (by omega) hsM hX (by rw [← hee]; exact e0)) rfl rfl rfl ?_
  rintro _ h21 ⟨rfl, ux7⟩
  refine ⟨(hk8.ext (((ux4.trans ux5).trans ux6).trans ux7)), ?_⟩
  refine LH_take (i := 16) rfl (fun h_ hI_ => Y_neq rfl rfl) rfl rfl rfl (by kernel_rfl) (by kernel_rfl) (by kernel_rfl) (fun _ _ _ => by rintro ⟨_, _, h_, _⟩; cases h_) (hk8.ext (((ux4.trans ux5).trans ux6).trans ux7)) ?_
  refine LH_take (i := 17) rfl (fun h_ hI_ => Y_pick_f rfl rfl) rfl rfl rfl (by kernel_rfl) (by kernel_rfl) (by kernel_rfl) (fun _ _ _ => by rintro ⟨_, _, h_, _⟩; cases h_) (hk8.ext (((ux4.trans ux5).trans ux6).trans ux7)) ?_
  refine LH_take (i := 18) rfl (fun h_ hI_ => Y_move rfl) rfl rfl rfl (by kernel_rfl) (by kernel_rfl) (by kernel_rfl) (fun _ _ _ => by rintro ⟨_, _, h_, _⟩; cases h_) (hk8.ext (((ux4.trans ux5).trans ux6).trans ux7)) ?_
  refine LH_known (d := 57) false rfl (by exact decide_eq_false (by exact fun q => q hee)) ?_
  refine LH_take (i := 19) rfl (fun h_ hI_ => Y_move rfl) rfl rfl rfl (by kernel_rfl) (by kernel_rfl) (by kernel_rfl) (fun _ _ _ => by rintro ⟨_, _, h_, _⟩; cases h_) (hk8.ext (((ux4.trans ux5).trans ux6).trans ux7)) ?_
  refine LH_take (i := 21) rfl (fun h_ hI_ => Y_move rfl) rfl rfl rfl (by kernel_rfl) (by kernel_rfl) (by kernel_rfl) (fun _ _ _ => by rintro ⟨_, _, h_, _⟩; cases h_) (hk8.ext (((ux4.trans ux5).trans ux6).trans ux7)) ?_
  refine LH_one (i := 20) (by kernel_rfl) ?_
  refine LO_call (i := 20) rfl (E_call (by kernel_rfl) rfl) (bl_NodesR (hK.ext ((((((((((ux1.trans ux2).trans ux3).trans hx1).trans uxi).trans hn5.ext).then' hp7.only (by simp) (Nat.le_trans (Nat.le_trans (Nat.le_trans (Nat.le_trans ux1.size ux2.size) ux3.size) hx1.size) uxi.size)).trans ux4).trans ux5).trans ux6).trans ux7)) (hE.ext ((((((((((ux1.trans ux2).trans ux3).trans hx1).trans uxi).trans hn5.ext).then' hp7.only (by simp) (Nat.le_trans (Nat.le_trans (Nat.le_trans (Nat.le_trans ux1.size ux2.size) ux3.size) hx1.size) uxi.size)).trans ux4).trans ux5).trans ux6).trans ux7)) (uBi.ext (((((hn5.ext.then' hp7.only (by simp) (Nat.le_refl _)).trans ux4).trans ux5).trans ux6).trans ux7)) (by omega)) rfl rfl rfl ?_
  rintro uv8 h22 ⟨uL8, ux8⟩
  refine ⟨(hk8.ext ((((ux4.trans ux5).trans ux6).trans ux7).trans ux8)), ?_⟩
  refine LH_one (i := 22) (by kernel_rfl) ?_
  refine LO_call (i := 22) rfl (E_call (by kernel_rfl) rfl) (rl_Nodes (hK.ext (((((((((((ux1.trans ux2).trans ux3).trans hx1).trans uxi).trans hn5.ext).then' hp7.only (by simp) (Nat.le_trans (Nat.le_trans (Nat.le_trans (Nat.le_trans ux1.size ux2.size) ux3.size) hx1.size) uxi.size)).trans ux4).trans ux5).trans ux6).trans ux7).trans ux8)) (hE.ext (((((((((((ux1.trans ux2).trans ux3).trans hx1).trans uxi).trans hn5.ext).then' hp7.only (by simp) (Nat.le_trans (Nat.le_trans (Nat.le_trans (Nat.le_trans ux1.size ux2.size) ux3.size) hx1.size) uxi.size)).trans ux4).trans ux5).trans ux6).trans ux7).trans ux8)) (uRi.ext ((((((hn5.ext.then' hp7.only (by simp) (Nat.le_refl _)).trans ux4).trans ux5).trans ux6).trans ux7).trans ux8)) (by omega) hsM hS) rfl rfl rfl ?_
  rintro uv9 h23 ⟨uL9, ux9⟩
  refine ⟨(hk8.ext (((((ux4.trans ux5).trans ux6).trans ux7).trans ux8).trans ux9)), ?_⟩
  refine LH_one (i := 23) (by kernel_rfl) ?_
  refine LO_call (i := 23) rfl (E_call (by kernel_rfl) rfl) (ref13_SameC (uL8.ext ux9) uL9 (by omega) hS.nodes.symm) rfl rfl rfl ?_
  rintro _ h24 ⟨rfl, ux10⟩
  refine ⟨(hk8.ext ((((((ux4.trans ux5).trans ux6).trans ux7).trans ux8).trans ux9).trans ux10)), ?_⟩
  have me3 := ((((ux4.trans ux5).trans ux6).trans ux7).trans ux8).trans ux9
  refine LH_take (i := 24) rfl (fun h_ hI_ => Y_not rfl) rfl rfl rfl (by kernel_rfl) (by kernel_rfl) (by kernel_rfl) (fun _ _ _ => by rintro ⟨_, _, h_, _⟩; cases h_) (hk8.ext (me3.trans ux10)) ?_
  refine LH_take (i := 25) rfl (fun h_ hI_ => Y_pick_f rfl rfl) rfl rfl rfl (by kernel_rfl) (by kernel_rfl) (by kernel_rfl) (fun _ _ _ => by rintro ⟨_, _, h_, _⟩; cases h_) (hk8.ext (me3.trans ux10)) ?_
  refine LH_done (by kernel_rfl) ?_
  refine X_then ?_
  refine W_sub _ (tk6 64 34 33 5 4 35) ?_
  refine W_false rfl ?_
  refine W_skip (X_block (X_then ?_))
  refine W_sub _ (tk5 34 33 5 4 35) ?_
  refine W_region ?_
  refine Ly (Y_add rfl rfl (by omega) (by omega)) ?_
  refine Mv ?_
  refine L_nil ?_
  refine X_loop ((i + 1, N, M)) (tk5 34 33 5 4 35) ?_ ?_
  ·exact ⟨by omega, by omega, hS, hsM, (uBi.ext ((((((((hn5.ext.then' hp7.only (by simp) (Nat.le_refl _)).trans ux4).trans ux5).trans ux6).trans ux7).trans ux8).trans ux9).trans ux10)), (uRi.ext ((((((((hn5.ext.then' hp7.only (by simp) (Nat.le_refl _)).trans ux4).trans ux5).trans ux6).trans ux7).trans ux8).trans ux9).trans ux10)), Nat.le_trans hCi (Nat.le_trans (Nat.le_trans (Nat.le_trans (Nat.le_trans (Nat.le_trans (Nat.le_trans (Nat.le_trans (Nat.le_trans hn5.ext.size hp7.only.size) ux4.size) ux5.size) ux6.size) ux7.size) ux8.size) ux9.size) ux10.size), (((((((((uxi.trans hn5.ext).then' hp7.only (by simp) uxi.size).trans ux4).trans ux5).trans ux6).trans ux7).trans ux8).trans ux9).trans ux10)⟩
  (try dsimp only)
  omega
 refine W_exit ?_
 refine X_then_exit (X_then_exit ?_)
 refine X_block_hit ?_
 refine X_then ?_
 refine W_sub _ sN ?_
 refine Wr ?_
 refine L_call (E_call (by kernel_rfl) rfl) (law15_alive _ (hK.ext ((((ux1.trans ux2).trans ux3).trans hx1).trans uxi)) (hE.ext ((((ux1.trans ux2).trans ux3).trans hx1).trans uxi))) rfl rfl rfl ?_
 rintro _ h25 ⟨rfl, hx11⟩
 refine Av ?_
 refine Nx ?_
 refine W_sub _ (tk1 2) ?_
 refine W_ret ?_
 refine X_ret1 rfl rfl ?_
 have me4 := ((((ux1.trans ux2).trans ux3).trans hx1).trans uxi).trans hx11
 exact ⟨rfl, me4⟩
end Go.Xp
