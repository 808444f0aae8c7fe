/- Layer 15 (rebuild): the built tree has exactly the added members. -/
import Derived.Test.YtknimfbagbkjfaaDoorBldi
import Derived.Test.YtknimfbagbkjfaaDoorFlaR
set_option linter.unusedSimpArgs false
set_option linter.unusedVariables false
set_option linter.unusedSectionVars false
namespace Go.Xp
open Go.Proofs

theorem mem1_add {N : List Nod} {x : Mem} (h : Bok N) (e : berr N x = 0) (dv : Value) : mem1 (N ++ [bnod N x dv]) = mem1 N ++ [erm x] := by
  obtain ⟨a1, a2, a3, a4⟩ := h.add (dv := dv) e
  unfold mem1
  rw [List.length_append]
  show (List.range (N.length + 1)).map _ = _
  rw [List.range_succ, List.map_append, List.map_cons, List.map_nil]
  congr 1
  · exact List.map_congr_left (fun i hi => msp_app (List.mem_range.1 hi))
  · exact congrArg (fun z => [z]) a2
theorem mem1_len (N : List Nod) : (mem1 N).length = N.length := by unfold mem1; simp
theorem str_same {N n : List Nod} {A M : List Mem} {k : Nat} (h : Bok N) (hn : n.length = N.length ∧ n.map er = cno N) (hM : M.map erm = mbs n) (hA : mem1 N = A.map erm) : mlsame M A = true := by
  rw [mlsame_erm, hM, (h.strict hn).2.2, hA]

set_option maxRecDepth 100000 in
theorem rebuildIsStrict (h : Heap) (hK : GlbK h) (hE : GlbE h) (w : Value) (l : List Mem) (hl : Rows memS h w l) (hn : l.length ≤ 140737488355328) (hs : ∀ x ∈ l, x.path.length ≤ 140737488355328 ∧ x.target.length ≤ 140737488355328 ∧ x.data.length ≤ 140737488355328 ∧ -9223372036854775808 ≤ x.size ∧ x.size ≤ 9223372036854775807) : Cal Tryd.prog 10 #[w] h (fun v h' => v = .bool true ∧ Ext h h') := by
 refine Cal_enter (args := [w]) Tryd.func10 rfl rfl rfl (fun σ => ?_)
 refine Wr ?_
 refine Av ?_
 refine L_nil (X_then (W_seq (W_region ?_)))
 refine L_call (E_call (by kernel_rfl) rfl) (bl_New _) rfl rfl rfl ?_
 rintro _ h1 ⟨b0, rfl, uB0, ux0⟩
 refine Av ?_
 refine Nx ?_
 refine W_sub _ (tk3 3 2 0) ?_
 refine W_seq (W_seq (W_region ?_))
 refine Mv ?_
 refine L_call (E_call (by kernel_rfl) rfl) (law15_TooLarge _ w l (hl.ext ux0) hn (fun x hx => ⟨(hs x hx).1, (hs x hx).2.1, (hs x hx).2.2.1⟩)) rfl rfl rfl ?_
 rintro _ h2 ⟨rfl, hx1⟩
 refine Ly (Y_gtr rfl rfl) ?_
 refine Mv ?_
 refine L_splitd (d := 17) rfl (fun g => ?_) (fun g => ?_)
 ·refine Skp ?_
  refine Skp ?_
  refine Ly (Y_pick_t rfl rfl) ?_
  refine Nx ?_
  refine W_sub _ (tk4 20 3 2 0) ?_
  refine W_true rfl ?_
  refine Wr ?_
  refine L_call (E_call (by kernel_rfl) rfl) (law15_alive _ (hK.ext (ux0.trans hx1)) (hE.ext (ux0.trans hx1))) rfl rfl rfl ?_
  rintro _ h3 ⟨rfl, hx2⟩
  refine Av ?_
  refine Nx ?_
  refine W_sub _ (tk3 2 3 0) ?_
  refine W_ret (X_then_ret ?_)
  refine X_ret1 rfl rfl ?_
  exact ⟨rfl, ((ux0.trans hx1).trans hx2)⟩
 refine Ly (Y_move rfl) ?_
 refine Ly (Y_pnil (ad := some ⟨b0, 0, none⟩) (show _ = some (TypeDesc.pointer (Tryd.prog.pointee 23)) by kernel_rfl) rfl rfl) ?_
 refine Ly (Y_pick_f rfl rfl) ?_
 refine Nx ?_
 refine W_sub _ (tk4 20 3 2 0) ?_
 refine W_false rfl ?_
 refine Ws ?_
 refine W_sub _ (tk3 3 2 0) ?_
 refine Wr ?_
 refine Av ?_
 refine Nx ?_
 have ok := mtoo_ok g
 refine W_seq (W_seq (W_region ?_))
 refine Mv ?_
 refine Ly (Y_lenr Tryd.underlying22 rfl (hl.ext (ux0.trans hx1))) ?_
 refine Mv ?_
 refine Nx ?_
 refine W_sub _ (tk6 24 23 22 4 3 2) ?_
 refine W_block ?_
 refine W_loop (S := Nat × List Nod × List Mem × Value) (fun (i, N, A, vo) => [(23, .int .i64 ((l.length : Int))), (22, w), (3, .pointer (some ⟨b0, 0, none⟩)), (2, .bool false), (4, vo), (24, .int .i64 ((i : Int)))]) (fun (i, N, A, vo) h' => i ≤ l.length ∧ N.length ≤ i ∧ (A = [] → vo = .slice none 0 0) ∧ (∀ x ∈ A, x ∈ l) ∧ mem1 N = A.map erm ∧ BL h h' b0 N ∧ Ext h h' ∧ RowsO memS h' h.size vo A) (fun (i, N, A, vo) => l.length - i) (0, [], [], .slice none 0 0) (tk6 23 22 3 2 4 24) ?_ ?_
 ·exact ⟨Nat.zero_le _, Nat.le_refl _, fun _ => rfl, fun x hx => absurd hx List.not_mem_nil, rfl, (uB0.ext hx1), (ux0.trans hx1), RowsO.nil _ _ _⟩
 rintro ⟨i, N, A, vo⟩ h4 ⟨hi, hNi, hvA, hAl, hmA, uBi, uxi, uoI⟩
 show W _ _ _ _ _ [(23, .int .i64 ((l.length : Int))), (22, w), (3, .pointer (some ⟨b0, 0, none⟩)), (2, .bool false), (4, vo), (24, .int .i64 ((i : Int)))] _
 refine Wr ?_
 refine Ly (Y_lss rfl rfl) ?_
 refine L_nil (X_then (W_seq ?_))
 refine W_splitd rfl (fun c => ?_) (fun c => ?_)
 ·refine Ws ?_
  refine W_sub _ (tk6 23 22 3 2 4 24) ?_
  refine W_seq (W_block (W_seq (W_region ?_)))
  refine Ly (Y_idxr Tryd.underlying22 (show _ = some 6 by kernel_rfl) rfl rfl rfl (hl.ext uxi) (by omega) (by omega)) ?_
  refine Ly (Y_ldrA0 (k := ((i : Int)).toNat) (us := [.int .i64 ((at_mem l ((i : Int)).toNat).kind), str ((at_mem l ((i : Int)).toNat).path), .int .i64 ((at_mem l ((i : Int)).toNat).mode), str ((at_mem l ((i : Int)).toNat).target), .int .i64 ((at_mem l ((i : Int)).toNat).size), ((at_mem l ((i : Int)).toNat).dv)]) Tryd.underlying30 rfl (show _ = some 6 by kernel_rfl) rfl rfl (hl.ext uxi) (by omega) rfl) ?_
  refine L_mks (M_alloc (u := .agg #[.int .i64 0, str [], .int .i64 0, str [], .int .i64 0, .slice none 0 0]) (by kernel_rfl)) rfl rfl rfl ?_
  rintro _ h5 ⟨rfl, hn3⟩
  have hk4 : Blk h5 h4.size [.int .i64 0, str [], .int .i64 0, str [], .int .i64 0, .slice none 0 0] := hn3.blk
  refine L_dos (D_store (us := [.int .i64 ((at_mem l ((i : Int)).toNat).kind), str ((at_mem l ((i : Int)).toNat).path), .int .i64 ((at_mem l ((i : Int)).toNat).mode), str ((at_mem l ((i : Int)).toNat).target), .int .i64 ((at_mem l ((i : Int)).toNat).size), ((at_mem l ((i : Int)).toNat).dv)]) (show _ = some 6 by kernel_rfl) rfl rfl rfl (by intro u_ hu_; simp only [List.mem_cons, List.not_mem_nil, or_false] at hu_; rcases hu_ with rfl | rfl | rfl | rfl | rfl | rfl <;> first | rfl | exact ((show Bytes _ ((at_mem l ((i : Int)).toNat).dv) ((at_mem l ((i : Int)).toNat).data) from (hl.ext (uxi.trans hn3.ext)).okat (k := ((i : Int)).toNat) (by omega))).cell1) hk4 (by simp)) rfl rfl ?_
  rintro h6 hp5
  have hk6 : Blk h6 h4.size [.int .i64 ((at_mem l ((i : Int)).toNat).kind), str ((at_mem l ((i : Int)).toNat).path), .int .i64 ((at_mem l ((i : Int)).toNat).mode), str ((at_mem l ((i : Int)).toNat).target), .int .i64 ((at_mem l ((i : Int)).toNat).size), ((at_mem l ((i : Int)).toNat).dv)] := hp5.blk
  refine Nx ?_
  refine W_sub _ (tk7 6 23 22 3 2 4 24) ?_
  have hX := ok.2 _ (bm_mem (l := l) (k := ((i : Int)).toNat) (by omega))
  have hXl := bm_mem (l := l) (k := ((i : Int)).toNat) (by omega)
  have hAN := congrArg List.length hmA
  rw [mem1_len, List.length_map] at hAN
  have uoP := (uoI.ext (hn3.ext.then' hp5.only (by simp) (Nat.le_refl _)))
  refine Wr ?_
  refine Mv ?_
  refine Ly (Y_ldbox (us := [.int .i64 ((at_mem l ((i : Int)).toNat).kind), str ((at_mem l ((i : Int)).toNat).path), .int .i64 ((at_mem l ((i : Int)).toNat).mode), str ((at_mem l ((i : Int)).toNat).target), .int .i64 ((at_mem l ((i : Int)).toNat).size), ((at_mem l ((i : Int)).toNat).dv)]) Tryd.underlying30 rfl (show _ = some 6 by kernel_rfl) rfl hk6 rfl) ?_
  refine L_call (E_call (by kernel_rfl) rfl) (bl_AddX (hK.ext ((uxi.trans hn3.ext).then' hp5.only (by simp) uxi.size)) (hE.ext ((uxi.trans hn3.ext).then' hp5.only (by simp) uxi.size)) uBi (hn3.ext.then' hp5.only (by simp) (Nat.le_refl _)) ((uxi.trans hn3.ext).then' hp5.only (by simp) uxi.size) (at_mem l ((i : Int)).toNat) ((hl.ext ((uxi.trans hn3.ext).then' hp5.only (by simp) uxi.size)).2 _ hXl) (by omega) hX) rfl rfl rfl ?_
  rintro _ h7 ⟨rfl, ⟨us6, uy6, ug6, ul6, um6⟩, uo6⟩
  refine Ly (Y_eql rfl rfl) ?_
  refine Nx ?_
  refine W_sub _ (tk8 31 6 23 22 3 2 4 24) ?_
  refine W_splitd rfl (fun e0 => ?_) (fun e0 => ?_)
  ·obtain ⟨d6, uB6⟩ := (uo6.resolve_left (fun q => q.1 e0)).2
   have me1 := ((uxi.trans hn3.ext).then' hp5.only (by simp) uxi.size).then' uy6 ug6 (Nat.le_refl _)
   have uoA := rowsM_over uoP uy6 (um6 _ _ _ uoP hvA) (fun x hx => (hl.ext me1).2 x (hAl x hx))
   refine W_region ?_
   refine Mv ?_
   have hc7 := (hk6.only uy6 (fun hb_ => Nat.lt_irrefl _ (Nat.lt_of_lt_of_le (ul6 _ hb_) (Nat.le_refl _))))
   refine Ly (Y_ldbox (us := [.int .i64 ((at_mem l ((i : Int)).toNat).kind), str ((at_mem l ((i : Int)).toNat).path), .int .i64 ((at_mem l ((i : Int)).toNat).mode), str ((at_mem l ((i : Int)).toNat).target), .int .i64 ((at_mem l ((i : Int)).toNat).size), ((at_mem l ((i : Int)).toNat).dv)]) Tryd.underlying30 rfl (show _ = some 6 by kernel_rfl) rfl hc7 rfl) ?_
   refine L_mks (M_litr (S := memS) (l := ([(at_mem l ((i : Int)).toNat)] : List Mem)) (cells := [.int .i64 ((at_mem l ((i : Int)).toNat).kind), str ((at_mem l ((i : Int)).toNat).path), .int .i64 ((at_mem l ((i : Int)).toNat).mode), str ((at_mem l ((i : Int)).toNat).target), .int .i64 ((at_mem l ((i : Int)).toNat).size), ((at_mem l ((i : Int)).toNat).dv)]) (pv := [(0, .agg #[.int .i64 ((at_mem l ((i : Int)).toNat).kind), str ((at_mem l ((i : Int)).toNat).path), .int .i64 ((at_mem l ((i : Int)).toNat).mode), str ((at_mem l ((i : Int)).toNat).target), .int .i64 ((at_mem l ((i : Int)).toNat).size), ((at_mem l ((i : Int)).toNat).dv)])]) (E := 30) (evp (is := [0]) (os := [.tmp 33]) (vs := [.agg #[.int .i64 ((at_mem l ((i : Int)).toNat).kind), str ((at_mem l ((i : Int)).toNat).path), .int .i64 ((at_mem l ((i : Int)).toNat).mode), str ((at_mem l ((i : Int)).toNat).target), .int .i64 ((at_mem l ((i : Int)).toNat).size), ((at_mem l ((i : Int)).toNat).dv)]]) rfl rfl) rfl rfl (fun _ => by kernel_rfl) (by simp only [List.mem_cons, List.not_mem_nil, or_false, forall_eq_or_imp, forall_eq]; exact (show Bytes _ ((at_mem l ((i : Int)).toNat).dv) ((at_mem l ((i : Int)).toNat).data) from (hl.ext me1).okat (k := ((i : Int)).toNat) (by omega)))) rfl rfl rfl ?_
   rintro v8 h8 ⟨ho9, hx10⟩
   have me2 := Nat.le_trans (Nat.le_trans uxi.size hn3.ext.size) hp5.only.size
   refine L_mks (M_apprG (z := 6) (bytes := 80) (z0 := (.agg #[.int .i64 0, str [], .int .i64 0, str [], .int .i64 0, .slice none 0 0])) Tryd.underlying22 (by unfold elemRow; kernel_rfl) rfl rfl (by decide) rfl rfl (uoA.ext hx10) ho9.rows (Nat.le_trans (Nat.le_trans me2 uy6.size) hx10.size) (by first | (simp; omega) | (simp; done) | omega) (fun h9 y9 hge x9 hx9 => (hl.ext (Ext.then' (me1.trans hx10) y9 hge (Nat.le_refl _))).2 x9 ((List.mem_append.1 hx9).elim (hAl x9) (fun q => by rw [List.mem_singleton.1 q]; exact hXl)))) rfl rfl rfl ?_
   rintro v11 h9 ⟨ha12, ha12l⟩
   refine Av ?_
   refine L_nil (X_block (X_then ?_))
   refine W_sub _ (tk6 4 23 22 3 2 24) ?_
   have uB7 := BL.app (uB6.ext hx10) (uoA.ext hx10) hvA ha12.only
   refine W_region ?_
   refine Ly (Y_add rfl rfl (by omega) (by omega)) ?_
   refine Mv ?_
   refine L_nil ?_
   refine X_loop ((i + 1, N ++ [bnod N (at_mem l ((i : Int)).toNat) d6], A ++ [at_mem l ((i : Int)).toNat], v11)) (tk6 23 22 3 2 4 24) ?_ ?_
   ·exact ⟨by omega, by simp; omega, fun q => absurd q (by simp), fun x hx => (List.mem_append.1 hx).elim (hAl x) (fun q => by rw [List.mem_singleton.1 q]; exact hXl), by rw [mem1_add uBi.ok e0, hmA, List.map_append]; rfl, uB7, ((me1.trans hx10).then' ha12.only ha12.ge (Nat.le_refl _)), ha12.own⟩
   (try dsimp only)
   omega
  refine W_skip (X_block (X_then ?_))
  refine W_sub _ (tk6 23 22 3 2 4 24) ?_
  have ux8 := (uo6.resolve_right (fun q => e0 q.1)).2
  refine W_region ?_
  refine Ly (Y_add rfl rfl (by omega) (by omega)) ?_
  refine Mv ?_
  refine L_nil ?_
  refine X_loop ((i + 1, N, A, vo)) (tk6 23 22 3 2 4 24) ?_ ?_
  ·exact ⟨by omega, by omega, hvA, hAl, hmA, (uBi.ext ((hn3.ext.then' hp5.only (by simp) (Nat.le_refl _)).trans ux8)), (((uxi.trans hn3.ext).then' hp5.only (by simp) uxi.size).trans ux8), (uoI.ext ((hn3.ext.then' hp5.only (by simp) (Nat.le_refl _)).trans ux8))⟩
  (try dsimp only)
  omega
 refine W_exit ?_
 refine X_then_exit (X_then_exit ?_)
 refine X_block_hit ?_
 refine X_then ?_
 refine W_sub _ (tk3 3 2 4) ?_
 refine Wr ?_
 refine Mv ?_
 refine L_call (E_call (by kernel_rfl) rfl) (bl_Nodes (hK.ext uxi) (hE.ext uxi) uBi (by omega)) rfl rfl rfl ?_
 rintro uv7 h10 ⟨uR7, uL7, uq7, ux7⟩
 refine Av ?_
 refine Nx ?_
 refine W_sub _ (tk3 7 2 4) ?_
 have hst := uBi.ok.strict uq7
 have hsz := can_all (P := okl) uq7 uBi.sz
 have hAN := congrArg List.length hmA
 rw [mem1_len, List.length_map] at hAN
 refine Wr ?_
 refine Mv ?_
 refine L_call (E_call (by kernel_rfl) rfl) (tree_Check _ (hK.ext (uxi.trans ux7)) (hE.ext (uxi.trans ux7)) uv7 uR7 uL7 (by have := uq7.1; omega) (fun x hx => by have := hsz x hx; unfold okl at this; omega)) rfl rfl rfl ?_
 rintro _ h11 ⟨rfl, hx13⟩
 refine Mv ?_
 refine Ly (Y_extract (v := .int .i64 (tpos uR7)) rfl rfl) ?_
 refine Ly (Y_extract (v := .int .i64 (terr uR7)) rfl rfl) ?_
 refine Av ?_
 refine Av ?_
 refine Nx ?_
 refine W_sub _ (tk5 9 8 7 2 4) ?_
 refine Wr ?_
 refine Mv ?_
 refine L_call (E_call (by kernel_rfl) rfl) (flatten_Members _ (hK.ext ((uxi.trans ux7).trans hx13)) (hE.ext ((uxi.trans ux7).trans hx13)) uv7 uR7 (uL7.ext hx13) (by have := uq7.1; omega) hsz) rfl rfl rfl ?_
 rintro _ h12 ⟨s014, L015, rfl, hr016, hq017, hx18⟩
 refine Mv ?_
 refine Ly (Y_extract (v := s014) rfl rfl) ?_
 refine Ly (Y_extract (v := .int .i64 (tpos uR7)) rfl rfl) ?_
 refine Ly (Y_extract (v := .int .i64 (terr uR7)) rfl rfl) ?_
 refine Av ?_
 refine Av ?_
 refine Av ?_
 refine Nx ?_
 refine W_sub _ (tk6 12 10 9 8 2 4) ?_
 refine Wr ?_
 refine L_call (E_call (by kernel_rfl) rfl) (law15_alive _ (hK.ext (((uxi.trans ux7).trans hx13).trans hx18)) (hE.ext (((uxi.trans ux7).trans hx13).trans hx18))) rfl rfl rfl ?_
 rintro _ h13 ⟨rfl, hx19⟩
 refine Mv ?_
 refine Mv ?_
 refine Ly (Y_eql rfl rfl) ?_
 refine Ly (Y_pick_t rfl rfl) ?_
 refine Mv ?_
 refine L_known (d := 55) true rfl (by exact decide_eq_true (by exact hst.1)) ?_
 refine Mv ?_
 refine Mv ?_
 refine Ly (Y_lenr Tryd.underlying22 rfl (uoI.rows.ext (((ux7.trans hx13).trans hx18).trans hx19))) ?_
 refine Ly (Y_eql rfl rfl) ?_
 refine Ly (Y_pick_t rfl rfl) ?_
 refine Mv ?_
 refine L_known (d := 61) true rfl (by exact decide_eq_true (by rw [hst.2.1]; omega)) ?_
 refine Mv ?_
 refine Ly (Y_eql rfl rfl) ?_
 refine Ly (Y_pick_t rfl rfl) ?_
 refine Mv ?_
 refine L_known (d := 65) true rfl (by exact decide_eq_true (by exact hst.1)) ?_
 refine Mv ?_
 refine Mv ?_
 refine L_call (E_call (by kernel_rfl) rfl) (ref14_Same _ s014 L015 (hr016.ext hx19) vo A (uoI.rows.ext (((ux7.trans hx13).trans hx18).trans hx19)) (by have := mem_len hq017; have := uq7.1; omega)) rfl rfl rfl ?_
 rintro _ h14 ⟨rfl, hx20⟩
 refine Ly (Y_pick_t rfl rfl) ?_
 refine Av ?_
 refine Nx ?_
 refine W_sub _ (tk1 2) ?_
 refine W_ret ?_
 refine X_ret1 rfl rfl ?_
 have me3 := ((((uxi.trans ux7).trans hx13).trans hx18).trans hx19).trans hx20
 exact ⟨congrArg Value.bool (str_same (k := 0) uBi.ok uq7 (by assumption) hmA), me3⟩
end Go.Xp
