/- Layer 15 (rebuild): adding the first members of a valid tree. -/
import Derived.Test.YtknimfbagbkjfaaDoorBldi
set_option linter.unusedSimpArgs false
set_option linter.unusedVariables false
set_option linter.unusedSectionVars false
namespace Go.Xp
open Go.Proofs

theorem pre_k {y : Int} {n : Nat} (hy : 0 ≤ y ∧ y ≤ 255) : 0 ≤ y % ((n : Int) + 1) ∧ y % ((n : Int) + 1) ≤ n := by
  have h1 := Int.emod_nonneg y (show ((n : Int) + 1) ≠ 0 by omega)
  have h2 := Int.emod_lt_of_pos y (show 0 < ((n : Int) + 1) by omega)
  omega
theorem mt_at {M : List Mem} {k i : Nat} (h : i < k) : at_mem (M.take k) i = at_mem M i := by
  unfold at_mem
  rw [List.getD_eq_getElem?_getD, List.getD_eq_getElem?_getD, List.getElem?_take_of_lt h]
/-- Nodes in canonical form. -/
def CanR (h : Heap) (v : Value) (N : List Nod) : Prop := ∃ L, Rows nodS h v L ∧ L.length = N.length ∧ L.map er = cno N
theorem CanR.ext {h h' : Heap} {v : Value} {N : List Nod} (x : CanR h v N) (y : Ext h h') : CanR h' v N := by
  obtain ⟨L, a, b⟩ := x; exact ⟨L, a.ext y, b⟩
theorem bl_NodesR {h0 h : Heap} {b : Nat} {N : List Nod} (hK : GlbK h) (hE : GlbE h) (B : BL h0 h b N) (hm : N.length ≤ 1000000000) :
    Cal Tryd.prog 14 #[.pointer (some ⟨b, 0, none⟩)] h (fun v h' => CanR h' v N ∧ Ext h h') :=
  (bl_Nodes hK hE B hm).mono fun v h' ⟨L, a, b, x⟩ => ⟨⟨L, a, b⟩, x⟩
theorem ref13_CanonC {h : Heap} {v : Value} {L : List Nod} (hL : Rows nodS h v L) (hm : L.length ≤ 1000000000) (hs : ∀ x ∈ L, x.path.length ≤ 100000000000 ∧ x.target.length ≤ 100000000000 ∧ x.data.length ≤ 100000000000) :
    Cal Tryd.prog 24 #[v] h (fun v h' => CanR h' v L ∧ Ext h h') :=
  (ref13_Canon h v L hL hm hs).mono fun v h' ⟨s0, L0, e, a, b, x⟩ => ⟨⟨L0, e ▸ a, b⟩, x⟩
theorem ref13_SameC {h : Heap} {u v : Value} {A B : List Nod} (hu : CanR h u A) (hv : CanR h v B) (hm : A.length ≤ 1000000000) (e : cno A = cno B) :
    Cal Tryd.prog 20 #[u, v] h (fun w h' => w = .bool true ∧ Ext h h') := by
  obtain ⟨L1, a1, a2, a3⟩ := hu
  obtain ⟨L2, b1, b2, b3⟩ := hv
  exact (ref13_Same h u L1 a1 v L2 b1 (by omega)).mono fun w h' q => ⟨by rw [q.1, lsame_er.2 (a3.trans (e.trans b3.symm))], q.2⟩
theorem pre_same {l N c : List Nod} {k : Nat} (hF : Fed (cno l) N) (hC : Cano (cno l)) (hq : c.length = l.length ∧ c.map er = cno l) (hk : N.length = k) : cno N = cno (c.take k) := by
  rw [hF.pre hC, hk, ← bd_map_er (c.take k), List.map_take, hq.2]
set_option maxRecDepth 100000 in
theorem rebuildPrefixIsValid (h : Heap) (hK : GlbK h) (hE : GlbE h) (w : Value) (l : List Nod) (hl : Rows nodS h w l) (y : Int) (hn : l.length ≤ 140737488355328) (hs : ∀ x ∈ l, x.path.length ≤ 140737488355328 ∧ x.target.length ≤ 140737488355328 ∧ x.data.length ≤ 140737488355328) (hy : 0 ≤ y ∧ y ≤ 255) : Cal Tryd.prog 11 #[w, .int .u8 (y)] h (fun v h' => v = .bool true ∧ Ext h h') := by
 refine Cal_enter (args := [w, .int .u8 (y)]) Tryd.func11 rfl rfl rfl (fun σ => ?_)
 refine Wr ?_
 refine Av ?_
 refine L_nil (X_then (W_seq (W_seq (W_region ?_))))
 refine Mv ?_
 refine L_call (E_call (by kernel_rfl) rfl) (law13_TooLarge _ w l hl hn hs) rfl rfl rfl ?_
 rintro _ h1 ⟨rfl, hx1⟩
 refine Ly (Y_gtr rfl rfl) ?_
 refine Nx ?_
 refine W_sub _ (tk4 17 4 0 1) ?_
 refine W_splitd rfl (fun g => ?_) (fun g => ?_)
 ·refine Wr ?_
  refine L_call (E_call (by kernel_rfl) rfl) (law15_alive _ (hK.ext hx1) (hE.ext hx1)) rfl rfl rfl ?_
  rintro _ h2 ⟨rfl, hx2⟩
  refine Av ?_
  refine Nx ?_
  refine W_sub _ (tk3 4 0 1) ?_
  refine W_ret (X_then_ret ?_)
  refine X_ret1 rfl rfl ?_
  exact ⟨rfl, (hx1.trans hx2)⟩
 refine Ws ?_
 refine W_sub _ (tk3 4 0 1) ?_
 have okA := can_okl g
 refine Wr ?_
 refine Mv ?_
 refine L_call (E_call (by kernel_rfl) rfl) (flatten_Members _ (hK.ext hx1) (hE.ext hx1) w l (hl.ext hx1) okA.2.1 okA.2.2) rfl rfl rfl ?_
 rintro _ h3 ⟨s03, L04, rfl, hr05, hq06, hx7⟩
 refine Mv ?_
 refine Ly (Y_extract (v := s03) rfl rfl) ?_
 refine Ly (Y_extract (v := .int .i64 (tpos l)) rfl rfl) ?_
 refine Ly (Y_extract (v := .int .i64 (terr l)) rfl rfl) ?_
 refine Av ?_
 refine Av ?_
 refine Av ?_
 refine Nx ?_
 refine W_sub _ (tk5 7 5 4 0 1) ?_
 refine Wr ?_
 refine L_call (E_call (by kernel_rfl) rfl) (bl_New _) rfl rfl rfl ?_
 rintro _ h4 ⟨b0, rfl, uB0, ux0⟩
 refine Av ?_
 refine Nx ?_
 refine W_sub _ (tk6 8 7 5 4 0 1) ?_
 refine W_seq (W_seq (W_region ?_))
 refine Mv ?_
 refine Ly (Y_neq rfl rfl) ?_
 refine Mv ?_
 refine L_splitd (d := 28) rfl (fun e => ?_) (fun e => ?_)
 ·refine Skp ?_
  refine Skp ?_
  refine Ly (Y_pick_t rfl rfl) ?_
  refine Nx ?_
  refine W_sub _ (tk6 31 8 5 4 0 1) ?_
  refine W_true rfl ?_
  refine Wr ?_
  refine L_call (E_call (by kernel_rfl) rfl) (law15_alive _ (hK.ext ((hx1.trans hx7).trans ux0)) (hE.ext ((hx1.trans hx7).trans ux0))) rfl rfl rfl ?_
  rintro _ h5 ⟨rfl, hx8⟩
  refine Av ?_
  refine Nx ?_
  refine W_sub _ (tk5 4 8 5 0 1) ?_
  refine W_ret (X_then_ret ?_)
  refine X_ret1 rfl rfl ?_
  exact ⟨rfl, (((hx1.trans hx7).trans ux0).trans hx8)⟩
 refine Ly (Y_move rfl) ?_
 refine Ly (Y_pnil (ad := some ⟨b0, 0, none⟩) (show _ = some (TypeDesc.pointer (Tryd.prog.pointee 23)) by kernel_rfl) rfl rfl) ?_
 refine Ly (Y_pick_f rfl rfl) ?_
 refine Nx ?_
 refine W_sub _ (tk6 31 8 5 4 0 1) ?_
 refine W_false rfl ?_
 refine Ws ?_
 refine W_sub _ (tk5 8 5 4 0 1) ?_
 have hz := Classical.not_not.1 e
 have hM := mbs_mem1 hq06 hz
 have hC := Cano.of (tok_of hz).set
 have hml := om_len hM
 rw [cno_len] at hml
 refine Wr ?_
 refine Mv ?_
 refine Ly (Y_convs Tryd.underlying5 Tryd.underlying3 rfl (wrap_i64 (by omega) (by omega))) ?_
 refine Mv ?_
 refine Ly (Y_lenr Tryd.underlying22 rfl (hr05.ext ux0)) ?_
 refine Ly (Y_add rfl rfl (by omega) (by omega)) ?_
 refine Ly (Y_rem rfl rfl (by omega) (by omega)) ?_
 refine Av ?_
 refine Nx ?_
 refine W_sub _ (tk5 9 8 5 4 0) ?_
 have hk := pre_k (y := y) (n := (L04).length) hy
 have hkl : ((L04).take (y % (((L04).length : Int) + 1)).toNat).length = (y % (((L04).length : Int) + 1)).toNat := by rw [List.length_take]; omega
 have hfT : Rows memS h3 (slcut 6 0 (y % (((L04).length : Int) + 1)).toNat s03) ((L04).take (y % (((L04).length : Int) + 1)).toNat) := hr05.cuth (hi := (y % (((L04).length : Int) + 1)).toNat) (by omega)
 refine W_seq (W_seq (W_region ?_))
 refine Mv ?_
 refine Mv ?_
 have hb9 : Rows memS h4 (slcut 6 0 (y % ((L04.length : Int) + 1)).toNat s03) (L04.take (y % ((L04.length : Int) + 1)).toNat) := ((hr05.ext ux0).cuth (hi := (y % ((L04.length : Int) + 1)).toNat) (by omega))
 refine Ly (Y_cutr_h Tryd.underlying22 (show _ = some 6 by kernel_rfl) rfl rfl (hr05.ext ux0) rfl (by omega) (by omega)) ?_
 refine Ly (Y_lenr Tryd.underlying22 rfl hb9) ?_
 refine Mv ?_
 refine Nx ?_
 refine W_sub _ (tk7 43 42 41 9 8 4 0) ?_
 refine W_block ?_
 refine W_loop (S := Nat × List Nod) (fun (i, N) => [(42, .int .i64 (((L04.take (y % ((L04.length : Int) + 1)).toNat).length : Int))), (41, slcut 6 0 (y % ((L04.length : Int) + 1)).toNat s03), (9, .int .i64 (y % ((L04.length : Int) + 1))), (8, .pointer (some ⟨b0, 0, none⟩)), (0, w), (43, .int .i64 ((i : Int)))]) (fun (i, N) h' => i ≤ ((L04.take (y % ((L04.length : Int) + 1)).toNat)).length ∧ N.length = i ∧ Fed (cno l) N ∧ BL h3 h' b0 N ∧ Ext h3 h') (fun (i, N) => ((L04.take (y % ((L04.length : Int) + 1)).toNat)).length - i) (0, []) (tk6 42 41 9 8 0 43) ?_ ?_
 ·exact ⟨Nat.zero_le _, rfl, Fed.nil _, uB0, ux0⟩
 rintro ⟨i, N⟩ h6 ⟨hi, hNi, hF, uBi, uxi⟩
 show W _ _ _ _ _ [(42, .int .i64 (((L04.take (y % ((L04.length : Int) + 1)).toNat).length : Int))), (41, slcut 6 0 (y % ((L04.length : Int) + 1)).toNat s03), (9, .int .i64 (y % ((L04.length : Int) + 1))), (8, .pointer (some ⟨b0, 0, none⟩)), (0, w), (43, .int .i64 ((i : Int)))] _
 refine Wr ?_
 refine Ly (Y_lss rfl rfl) ?_
 refine L_nil (X_then (W_seq ?_))
 refine W_splitd rfl (fun c => ?_) (fun c => ?_)
 ·refine Ws ?_
  refine W_sub _ (tk6 42 41 9 8 0 43) ?_
  refine W_seq (W_block (W_seq (W_region ?_)))
  refine Ly (Y_idxr Tryd.underlying22 (show _ = some 6 by kernel_rfl) rfl rfl rfl (hfT.ext uxi) (by omega) (by omega)) ?_
  refine Ly (Y_ldrA0 (k := ((i : Int)).toNat) (us := [.int .i64 ((at_mem (L04.take (y % ((L04.length : Int) + 1)).toNat) ((i : Int)).toNat).kind), str ((at_mem (L04.take (y % ((L04.length : Int) + 1)).toNat) ((i : Int)).toNat).path), .int .i64 ((at_mem (L04.take (y % ((L04.length : Int) + 1)).toNat) ((i : Int)).toNat).mode), str ((at_mem (L04.take (y % ((L04.length : Int) + 1)).toNat) ((i : Int)).toNat).target), .int .i64 ((at_mem (L04.take (y % ((L04.length : Int) + 1)).toNat) ((i : Int)).toNat).size), ((at_mem (L04.take (y % ((L04.length : Int) + 1)).toNat) ((i : Int)).toNat).dv)]) Tryd.underlying30 rfl (show _ = some 6 by kernel_rfl) rfl rfl (hfT.ext uxi) (by omega) rfl) ?_
  refine L_mks (M_alloc (u := .agg #[.int .i64 0, str [], .int .i64 0, str [], .int .i64 0, .slice none 0 0]) (by kernel_rfl)) rfl rfl rfl ?_
  rintro _ h7 ⟨rfl, hn10⟩
  have hk11 : Blk h7 h6.size [.int .i64 0, str [], .int .i64 0, str [], .int .i64 0, .slice none 0 0] := hn10.blk
  refine L_dos (D_store (us := [.int .i64 ((at_mem (L04.take (y % ((L04.length : Int) + 1)).toNat) ((i : Int)).toNat).kind), str ((at_mem (L04.take (y % ((L04.length : Int) + 1)).toNat) ((i : Int)).toNat).path), .int .i64 ((at_mem (L04.take (y % ((L04.length : Int) + 1)).toNat) ((i : Int)).toNat).mode), str ((at_mem (L04.take (y % ((L04.length : Int) + 1)).toNat) ((i : Int)).toNat).target), .int .i64 ((at_mem (L04.take (y % ((L04.length : Int) + 1)).toNat) ((i : Int)).toNat).size), ((at_mem (L04.take (y % ((L04.length : Int) + 1)).toNat) ((i : Int)).toNat).dv)]) (show _ = some 6 by kernel_rfl) rfl rfl rfl (by intro u_ hu_; simp only [List.mem_cons, List.not_mem_nil, or_false] at hu_; rcases hu_ with rfl | rfl | rfl | rfl | rfl | rfl <;> first | rfl | exact ((show Bytes _ ((at_mem (L04.take (y % ((L04.length : Int) + 1)).toNat) ((i : Int)).toNat).dv) ((at_mem (L04.take (y % ((L04.length : Int) + 1)).toNat) ((i : Int)).toNat).data) from (hfT.ext (uxi.trans hn10.ext)).okat (k := ((i : Int)).toNat) (by omega))).cell1) hk11 (by simp)) rfl rfl ?_
  rintro h8 hp12
  have hk13 : Blk h8 h6.size [.int .i64 ((at_mem (L04.take (y % ((L04.length : Int) + 1)).toNat) ((i : Int)).toNat).kind), str ((at_mem (L04.take (y % ((L04.length : Int) + 1)).toNat) ((i : Int)).toNat).path), .int .i64 ((at_mem (L04.take (y % ((L04.length : Int) + 1)).toNat) ((i : Int)).toNat).mode), str ((at_mem (L04.take (y % ((L04.length : Int) + 1)).toNat) ((i : Int)).toNat).target), .int .i64 ((at_mem (L04.take (y % ((L04.length : Int) + 1)).toNat) ((i : Int)).toNat).size), ((at_mem (L04.take (y % ((L04.length : Int) + 1)).toNat) ((i : Int)).toNat).dv)] := hp12.blk
  refine Nx ?_
  refine W_sub _ (tk7 11 42 41 9 8 0 43) ?_
  have hX := fed_sz hz hM okA.2.2 (i := i) (by omega)
  have e0 := fed_err hF hC hM (i := i) (by omega) hNi
  have et : at_mem (L04.take (y % ((L04.length : Int) + 1)).toNat) ((i : Int)).toNat = _ := mt_at (by rw [nn]; omega)
  rw [← et] at hX e0
  refine Wr ?_
  refine Mv ?_
  refine Ly (Y_ldbox (us := [.int .i64 ((at_mem (L04.take (y % ((L04.length : Int) + 1)).toNat) ((i : Int)).toNat).kind), str ((at_mem (L04.take (y % ((L04.length : Int) + 1)).toNat) ((i : Int)).toNat).path), .int .i64 ((at_mem (L04.take (y % ((L04.length : Int) + 1)).toNat) ((i : Int)).toNat).mode), str ((at_mem (L04.take (y % ((L04.length : Int) + 1)).toNat) ((i : Int)).toNat).target), .int .i64 ((at_mem (L04.take (y % ((L04.length : Int) + 1)).toNat) ((i : Int)).toNat).size), ((at_mem (L04.take (y % ((L04.length : Int) + 1)).toNat) ((i : Int)).toNat).dv)]) Tryd.underlying30 rfl (show _ = some 6 by kernel_rfl) rfl hk13 rfl) ?_
  have me1 := (((hx1.trans hx7).trans uxi).trans hn10.ext).then' hp12.only (by simp) (Nat.le_trans (Nat.le_trans hx1.size hx7.size) uxi.size)
  refine L_call (E_call (by kernel_rfl) rfl) (bl_Add (hK.ext me1) (hE.ext me1) uBi (hn10.ext.then' hp12.only (by simp) (Nat.le_refl _)) ((uxi.trans hn10.ext).then' hp12.only (by simp) uxi.size) (at_mem (L04.take (y % ((L04.length : Int) + 1)).toNat) ((i : Int)).toNat) ((hfT.ext ((uxi.trans hn10.ext).then' hp12.only (by simp) uxi.size)).2 _ (bm_mem (l := (L04.take (y % ((L04.length : Int) + 1)).toNat)) (k := ((i : Int)).toNat) (by omega))) (by omega) hX) rfl rfl rfl ?_
  rintro _ h9 ⟨rfl, ⟨us6, uy6, ug6, ul6⟩, uo6⟩
  obtain ⟨d6, uB6⟩ := (uo6.resolve_left (fun q => q.1 e0)).2
  refine Ly (Y_neq rfl rfl) ?_
  refine Nx ?_
  refine W_sub _ (tk7 50 42 41 9 8 0 43) ?_
  refine W_known false rfl (by exact decide_eq_false (by exact fun q => q e0)) ?_
  refine W_skip (X_block (X_then ?_))
  refine W_sub _ (tk6 42 41 9 8 0 43) ?_
  refine W_region ?_
  refine Ly (Y_add rfl rfl (by omega) (by omega)) ?_
  refine Mv ?_
  refine L_nil ?_
  refine X_loop ((i + 1, N ++ [bnod N (at_mem (L04.take (y % ((L04.length : Int) + 1)).toNat) ((i : Int)).toNat) d6])) (tk6 42 41 9 8 0 43) ?_ ?_
  ·exact ⟨by omega, by simp; omega, by rw [et]; exact fed_add hF hC hM (by omega) hNi d6, uB6, (((uxi.trans hn10.ext).then' hp12.only (by simp) uxi.size).then' uy6 ug6 (Nat.le_refl _))⟩
  (try dsimp only)
  omega
 refine W_exit ?_
 refine X_then_exit (X_then_exit ?_)
 refine X_block_hit ?_
 refine X_then ?_
 refine W_sub _ (tk3 9 8 0) ?_
 refine Wr ?_
 refine Mv ?_
 refine L_call (E_call (by kernel_rfl) rfl) (ref13_Canon _ w l (hl.ext ((hx1.trans hx7).trans uxi)) okA.2.1 okA.2.2) rfl rfl rfl ?_
 rintro s014 h10 ⟨_, L015, rfl, hr016, hq017, hx18⟩
 refine Av ?_
 refine Nx ?_
 refine W_sub _ (tk3 12 9 8) ?_
 have hq12 := hq017
 have hkn : (N.length : Int) = (y % ((L04.length : Int) + 1)) := by omega
 refine W_seq (W_seq (W_region ?_))
 refine Mv ?_
 refine Ly (Y_lenr Tryd.underlying32 rfl hr016) ?_
 refine Mv ?_
 refine Ly (Y_lss rfl rfl) ?_
 refine Nx ?_
 refine W_sub _ (tk4 57 12 9 8) ?_
 refine W_known false rfl (by exact decide_eq_false (by have := hq12.1; omega)) ?_
 refine Ws ?_
 refine W_sub _ (tk3 12 9 8) ?_
 refine Wr ?_
 refine Mv ?_
 refine L_call (E_call (by kernel_rfl) rfl) (bl_Nodes (hK.ext (((hx1.trans hx7).trans uxi).trans hx18)) (hE.ext (((hx1.trans hx7).trans uxi).trans hx18)) (uBi.ext hx18) (by omega)) rfl rfl rfl ?_
 rintro uv7 h11 ⟨uR7, uL7, uq7, ux7⟩
 refine L_call (E_call (by kernel_rfl) rfl) (tree_Check _ (hK.ext ((((hx1.trans hx7).trans uxi).trans hx18).trans ux7)) (hE.ext ((((hx1.trans hx7).trans uxi).trans hx18).trans ux7)) uv7 uR7 uL7 (by have := uq7.1; omega) (fun x hx => by have := can_all (P := okl) uq7 uBi.sz x hx; unfold okl at this; omega)) rfl rfl rfl ?_
 rintro _ h12 ⟨rfl, hx19⟩
 refine Mv ?_
 refine Ly (Y_extract (v := .int .i64 (tpos uR7)) rfl rfl) ?_
 refine Ly (Y_extract (v := .int .i64 (terr uR7)) rfl rfl) ?_
 refine Av ?_
 refine Av ?_
 refine Nx ?_
 refine W_sub _ (tk5 14 13 12 9 8) ?_
 have hst := hF.ok.strict uq7
 refine W_seq ?_
 refine W_pers [(14, .int .i64 (terr uR7)), (13, .int .i64 (tpos uR7)), (12, s014), (9, .int .i64 (y % ((L04.length : Int) + 1))), (8, .pointer (some ⟨b0, 0, none⟩))] (tk5 14 13 12 9 8) (by kernel_rfl) ?_
 refine LP_op 0 (fun _ vv => .bool true = vv) [] rfl rfl (by kernel_rfl) (fun _ _ _ _ p => p) ?_ ?_
 ·intro h13 hx20
  refine Needs_nil ?_
  refine Stp_call (E_call (by kernel_rfl) rfl) (law15_alive _ (hK.ext ((((((hx1.trans hx7).trans uxi).trans hx18).trans ux7).trans hx19).trans hx20)) (hE.ext ((((((hx1.trans hx7).trans uxi).trans hx18).trans ux7).trans hx19).trans hx20))) rfl ?_
  rintro _ h14 ⟨rfl, hx21⟩
  exact ⟨hx21, rfl⟩
 refine LP_op 1 (fun _ vv => .bool true = vv) [(0, 64)] rfl rfl (by kernel_rfl) (fun _ _ _ _ p => p) ?_ ?_
 ·intro h15 hx22
  rintro _ rfl
  refine Needs_nil ?_
  refine Stp_yld (Y_move rfl) rfl ?_
  exact rfl
 refine LP_op 2 (fun _ vv => .int .i64 (terr uR7) = vv) [(1, 65)] rfl rfl (by kernel_rfl) (fun _ _ _ _ p => p) ?_ ?_
 ·intro h16 hx23
  rintro _ rfl
  refine Needs_nil ?_
  refine Stp_yld (Y_move rfl) rfl ?_
  exact rfl
 refine LP_op 3 (fun _ vv => .bool (decide ((terr uR7) = 0)) = vv) [(1, 65), (2, 66)] rfl rfl (by kernel_rfl) (fun _ _ _ _ p => p) ?_ ?_
 ·intro h17 hx24
  rintro _ rfl
  rintro _ rfl
  refine Needs_nil ?_
  refine Stp_yld (Y_eql rfl rfl) rfl ?_
  exact rfl
 refine LP_op 4 (fun _ vv => .bool (decide ((terr uR7) = 0)) = vv) [(1, 65), (3, 67)] rfl rfl (by kernel_rfl) (fun _ _ _ _ p => p) ?_ ?_
 ·intro h18 hx25
  rintro _ rfl
  rintro _ rfl
  refine Needs_nil ?_
  refine Stp_yld (Y_pick_t rfl rfl) rfl ?_
  exact rfl
 refine LP_op 5 (fun _ vv => .bool true = vv) [(4, 68)] rfl rfl (by kernel_rfl) (fun _ _ _ _ p => p) ?_ ?_
 ·intro h19 hx26
  rintro _ rfl
  refine Needs_nil ?_
  refine Stp_yld (Y_move rfl) rfl ?_
  exact (congrArg Value.bool (decide_eq_true (by exact hst.1))).symm
 refine LP_op 6 (fun _ vv => .int .i64 (tpos uR7) = vv) [(5, 69)] rfl rfl (by kernel_rfl) (fun _ _ _ _ p => p) ?_ ?_
 ·intro h20 hx27
  rintro _ rfl
  refine Needs_nil ?_
  refine Stp_yld (Y_move rfl) rfl ?_
  exact rfl
 refine LP_op 7 (fun _ vv => .int .i64 (y % ((L04.length : Int) + 1)) = vv) [(5, 69)] rfl rfl (by kernel_rfl) (fun _ _ _ _ p => p) ?_ ?_
 ·intro h21 hx28
  rintro _ rfl
  refine Needs_nil ?_
  refine Stp_yld (Y_move rfl) rfl ?_
  exact rfl
 refine LP_op 8 (fun _ vv => .bool (decide ((tpos uR7) = (y % ((L04.length : Int) + 1)))) = vv) [(5, 69), (6, 70), (7, 71)] rfl rfl (by kernel_rfl) (fun _ _ _ _ p => p) ?_ ?_
 ·intro h22 hx29
  rintro _ rfl
  rintro _ rfl
  rintro _ rfl
  refine Needs_nil ?_
  refine Stp_yld (Y_eql rfl rfl) rfl ?_
  exact rfl
 refine LP_op 9 (fun _ vv => .bool (decide ((tpos uR7) = (y % ((L04.length : Int) + 1)))) = vv) [(8, 72), (5, 69)] rfl rfl (by kernel_rfl) (fun _ _ _ _ p => p) ?_ ?_
 ·intro h23 hx30
  rintro _ rfl
  rintro _ rfl
  refine Needs_nil ?_
  refine Stp_yld (Y_pick_t rfl rfl) rfl ?_
  exact rfl
 refine LP_op 10 (fun _ vv => .bool true = vv) [(9, 73)] rfl rfl (by kernel_rfl) (fun _ _ _ _ p => p) ?_ ?_
 ·intro h24 hx31
  rintro _ rfl
  refine Needs_nil ?_
  refine Stp_yld (Y_move rfl) rfl ?_
  exact (congrArg Value.bool (decide_eq_true (by rw [hst.2.1]; exact hkn))).symm
 refine LP_op 11 (fun _ vv => .pointer (some ⟨b0, 0, none⟩) = vv) [(10, 74)] rfl rfl (by kernel_rfl) (fun _ _ _ _ p => p) ?_ ?_
 ·intro h25 hx32
  rintro _ rfl
  refine Needs_nil ?_
  refine Stp_yld (Y_move rfl) rfl ?_
  exact rfl
 refine LP_op 12 (fun hh r18_1 => CanR hh r18_1 (N)) [(10, 74), (11, 75)] rfl rfl (by kernel_rfl) (fun _ _ _ x_ p_ => p_.ext x_) ?_ ?_
 ·intro h26 hx33
  rintro _ rfl
  rintro _ rfl
  refine Needs_nil ?_
  refine Stp_call (E_call (by kernel_rfl) rfl) (bl_NodesR (hK.ext ((((((hx1.trans hx7).trans uxi).trans hx18).trans ux7).trans hx19).trans hx33)) (hE.ext ((((((hx1.trans hx7).trans uxi).trans hx18).trans ux7).trans hx19).trans hx33)) (uBi.ext (((hx18.trans ux7).trans hx19).trans hx33)) (by omega)) rfl ?_
  rintro uv9 h27 ⟨uL9, ux9⟩
  exact ⟨ux9, uL9⟩
 refine LP_op 13 (fun _ vv => s014 = vv) [(10, 74)] rfl rfl (by kernel_rfl) (fun _ _ _ _ p => p) ?_ ?_
 ·intro h28 hx34
  rintro _ rfl
  refine Needs_nil ?_
  refine Stp_yld (Y_move rfl) rfl ?_
  exact rfl
 refine LP_op 14 (fun _ vv => .int .i64 (y % ((L04.length : Int) + 1)) = vv) [(10, 74)] rfl rfl (by kernel_rfl) (fun _ _ _ _ p => p) ?_ ?_
 ·intro h29 hx35
  rintro _ rfl
  refine Needs_nil ?_
  refine Stp_yld (Y_move rfl) rfl ?_
  exact rfl
 refine LP_op 15 (fun hh r18_2 => Rows nodS hh r18_2 (L015.take (y % ((L04.length : Int) + 1)).toNat)) [(10, 74), (13, 77), (14, 78)] rfl rfl (by kernel_rfl) (fun _ _ _ x_ p_ => p_.ext x_) ?_ ?_
 ·intro h30 hx36
  rintro _ rfl
  rintro _ rfl
  rintro _ rfl
  refine Needs_nil ?_
  have hb37 : Rows nodS h30 (slcut 6 0 (y % ((L04.length : Int) + 1)).toNat s014) (L015.take (y % ((L04.length : Int) + 1)).toNat) := ((hr016.ext ((ux7.trans hx19).trans hx36)).cuth (hi := (y % ((L04.length : Int) + 1)).toNat) (by omega))
  refine Stp_yld (Y_cutr_h Tryd.underlying32 (show _ = some 6 by kernel_rfl) rfl rfl (hr016.ext ((ux7.trans hx19).trans hx36)) rfl (by omega) (by omega)) rfl ?_
  exact hb37
 refine LP_op 16 (fun hh r18_3 => CanR hh r18_3 ((L015.take (y % ((L04.length : Int) + 1)).toNat))) [(10, 74), (15, 79)] rfl rfl (by kernel_rfl) (fun _ _ _ x_ p_ => p_.ext x_) ?_ ?_
 ·intro h31 hx38
  rintro _ rfl
  intro r18_2 q18_2
  refine Needs_nil ?_
  refine Stp_call (E_call (by kernel_rfl) rfl) (ref13_CanonC q18_2 (by have := hq12.1; rw [List.length_take]; omega) (fun x hx => can_all (P := okl) hq12 okA.2.2 x (List.mem_of_mem_take hx))) rfl ?_
  rintro uv8 h32 ⟨uL8, ux8⟩
  exact ⟨ux8, uL8⟩
 refine LP_op 17 (fun _ vv => .bool true = vv) [(16, 80), (10, 74), (12, 76)] rfl rfl (by kernel_rfl) (fun _ _ _ _ p => p) ?_ ?_
 ·intro h33 hx39
  intro r18_3 q18_3
  rintro _ rfl
  intro r18_1 q18_1
  refine Needs_nil ?_
  refine Stp_call (E_call (by kernel_rfl) rfl) (ref13_SameC q18_1 q18_3 (by omega) (pre_same hF hC hq12 (by omega))) rfl ?_
  rintro _ h34 ⟨rfl, ux10⟩
  exact ⟨ux10, rfl⟩
 refine LP_op 18 (fun _ vv => .bool true = vv) [(17, 81), (10, 74)] rfl rfl (by kernel_rfl) (fun _ _ _ _ p => p) ?_ ?_
 ·intro h35 hx40
  rintro _ rfl
  rintro _ rfl
  refine Needs_nil ?_
  refine Stp_yld (Y_pick_t rfl rfl) rfl ?_
  exact rfl
 refine LP_op 19 (fun _ vv => .bool true = vv) [(18, 82)] rfl rfl (by kernel_rfl) (fun _ _ _ _ p => p) ?_ ?_
 ·intro h36 hx41
  rintro _ rfl
  refine Needs_nil ?_
  refine Stp_yld (Y_assign rfl) rfl ?_
  exact rfl
 refine LP_end [(19, 4)] rfl (by kernel_rfl) rfl ?_
 intro h37 hx42
 rintro _ rfl
 refine Needs_nil ?_
 refine X_then ?_
 refine W_sub _ (tk1 4) ?_
 refine W_ret ?_
 refine X_ret1 rfl rfl ?_
 have me2 := ((((hx1.trans hx7).trans uxi).trans hx18).trans ux7).trans hx19
 exact ⟨rfl, (me2.trans hx42)⟩
end Go.Xp
