/- Layer 15 (rebuild): adding the members of a valid tree. -/
import Derived.Test.YtknimfbagbkjfaaDoorBldp
set_option linter.unusedSimpArgs false
set_option linter.unusedVariables false
set_option linter.unusedSectionVars false
namespace Go.Xp
open Go.Proofs

theorem mbs_mem1 {l : List Nod} {M : List Mem} (h : M.map erm = mbs l) (hz : terr l = 0) : M.map erm = mem1 (cno l) := by
  unfold mbs at h; rw [if_pos hz] at h; exact h
theorem inv_same {a b N C : List Nod} {n m : Nat} (e : cno N = C) (h1 : a.length = n ∧ a.map er = cno N) (h2 : b.length = m ∧ b.map er = C) : lsame a b = true := lsame_er.2 (h1.2.trans (e.trans h2.2.symm))
theorem nn (i : Nat) : ((i : Int)).toNat = i := Int.toNat_natCast i
theorem fed_err {C N : List Nod} {M : List Mem} (h : Fed C N) (hC : Cano C) (hM : M.map erm = mem1 C) {i : Nat} (hi : i < M.length) (e : N.length = i) : berr N (at_mem M ((i : Int)).toNat) = 0 := by
  rw [nn]; exact h.err hC hM hi e
theorem fed_add {C N : List Nod} {M : List Mem} (h : Fed C N) (hC : Cano C) (hM : M.map erm = mem1 C) {i : Nat} (hi : i < M.length) (e : N.length = i) (dv : Value) : Fed C (N ++ [bnod N (at_mem M ((i : Int)).toNat) dv]) := by
  rw [nn]; exact h.add hC hM hi e dv
theorem fed_sz {l : List Nod} {M : List Mem} (hz : terr l = 0) (hM : M.map erm = mem1 (cno l)) (hs : ∀ x ∈ l, x.path.length ≤ 100000000000 ∧ x.target.length ≤ 100000000000 ∧ x.data.length ≤ 100000000000) {i : Nat} (hi : i < M.length) : (at_mem M ((i : Int)).toNat).path.length ≤ 100000000000 ∧ (at_mem M ((i : Int)).toNat).target.length ≤ 100000000000 ∧ (at_mem M ((i : Int)).toNat).data.length ≤ 100000000000 := by
  rw [nn]; have := ord_len hz hM hs hi; exact ⟨this.1, this.2.1, this.2.2.1⟩

set_option maxRecDepth 100000 in
theorem rebuildInvertsFlatten (h : Heap) (hK : GlbK h) (hE : GlbE h) (w : Value) (l : List Nod) (hl : Rows nodS h w l) (hn : l.length ≤ 140737488355328) (hs : ∀ x ∈ l, x.path.length ≤ 140737488355328 ∧ x.target.length ≤ 140737488355328 ∧ x.data.length ≤ 140737488355328) : Cal Tryd.prog 9 #[w] h (fun v h' => v = .bool true ∧ Ext h h') := by
 refine Cal_enter (args := [w]) Tryd.func9 rfl rfl rfl (fun σ => ?_)
 refine Wr ?_
 refine Av ?_
 refine L_nil (X_then (W_seq (W_seq (W_region ?_))))
 refine Mv ?_
 refine L_call (E_call (by kernel_rfl) rfl) (law13_TooLarge _ w l hl hn hs) rfl rfl rfl ?_
 rintro _ h1 ⟨rfl, hx1⟩
 refine Ly (Y_gtr rfl rfl) ?_
 refine Nx ?_
 refine W_sub _ (tk3 11 2 0) ?_
 refine W_splitd rfl (fun g => ?_) (fun g => ?_)
 ·refine Wr ?_
  refine L_call (E_call (by kernel_rfl) rfl) (law15_alive _ (hK.ext hx1) (hE.ext hx1)) rfl rfl rfl ?_
  rintro _ h2 ⟨rfl, hx2⟩
  refine Av ?_
  refine Nx ?_
  refine W_sub _ (tk2 2 0) ?_
  refine W_ret (X_then_ret ?_)
  refine X_ret1 rfl rfl ?_
  exact ⟨rfl, (hx1.trans hx2)⟩
 refine Ws ?_
 refine W_sub _ (tk2 2 0) ?_
 have okA := can_okl g
 refine Wr ?_
 refine Mv ?_
 refine L_call (E_call (by kernel_rfl) rfl) (flatten_Members _ (hK.ext hx1) (hE.ext hx1) w l (hl.ext hx1) okA.2.1 okA.2.2) rfl rfl rfl ?_
 rintro _ h3 ⟨s03, L04, rfl, hr05, hq06, hx7⟩
 refine Mv ?_
 refine Ly (Y_extract (v := s03) rfl rfl) ?_
 refine Ly (Y_extract (v := .int .i64 (tpos l)) rfl rfl) ?_
 refine Ly (Y_extract (v := .int .i64 (terr l)) rfl rfl) ?_
 refine Av ?_
 refine Av ?_
 refine Av ?_
 refine Nx ?_
 refine W_sub _ (tk4 5 3 2 0) ?_
 refine Wr ?_
 refine L_call (E_call (by kernel_rfl) rfl) (bl_New _) rfl rfl rfl ?_
 rintro _ h4 ⟨b0, rfl, uB0, ux0⟩
 refine Av ?_
 refine Nx ?_
 refine W_sub _ (tk5 6 5 3 2 0) ?_
 refine W_seq (W_seq (W_region ?_))
 refine Mv ?_
 refine Ly (Y_neq rfl rfl) ?_
 refine Mv ?_
 refine L_splitd (d := 22) rfl (fun e => ?_) (fun e => ?_)
 ·refine Skp ?_
  refine Skp ?_
  refine Ly (Y_pick_t rfl rfl) ?_
  refine Nx ?_
  refine W_sub _ (tk5 25 6 3 2 0) ?_
  refine W_true rfl ?_
  refine Wr ?_
  refine L_call (E_call (by kernel_rfl) rfl) (law15_alive _ (hK.ext ((hx1.trans hx7).trans ux0)) (hE.ext ((hx1.trans hx7).trans ux0))) rfl rfl rfl ?_
  rintro _ h5 ⟨rfl, hx8⟩
  refine Av ?_
  refine Nx ?_
  refine W_sub _ (tk4 2 6 3 0) ?_
  refine W_ret (X_then_ret ?_)
  refine X_ret1 rfl rfl ?_
  exact ⟨rfl, (((hx1.trans hx7).trans ux0).trans hx8)⟩
 refine Ly (Y_move rfl) ?_
 refine Ly (Y_pnil (ad := some ⟨b0, 0, none⟩) (show _ = some (TypeDesc.pointer (Tryd.prog.pointee 23)) by kernel_rfl) rfl rfl) ?_
 refine Ly (Y_pick_f rfl rfl) ?_
 refine Nx ?_
 refine W_sub _ (tk5 25 6 3 2 0) ?_
 refine W_false rfl ?_
 refine Ws ?_
 refine W_sub _ (tk4 6 3 2 0) ?_
 have hz := Classical.not_not.1 e
 have hM := mbs_mem1 hq06 hz
 have hC := Cano.of (tok_of hz).set
 have hml := om_len hM
 rw [cno_len] at hml
 refine W_seq (W_seq (W_region ?_))
 refine Mv ?_
 refine Ly (Y_lenr Tryd.underlying22 rfl (hr05.ext ux0)) ?_
 refine Mv ?_
 refine Nx ?_
 refine W_sub _ (tk6 29 28 27 6 2 0) ?_
 refine W_block ?_
 refine W_loop (S := Nat × List Nod) (fun (i, N) => [(28, .int .i64 ((L04.length : Int))), (27, s03), (6, .pointer (some ⟨b0, 0, none⟩)), (0, w), (29, .int .i64 ((i : Int)))]) (fun (i, N) h' => i ≤ (L04).length ∧ N.length = i ∧ Fed (cno l) N ∧ BL h3 h' b0 N ∧ Ext h3 h') (fun (i, N) => (L04).length - i) (0, []) (tk5 28 27 6 0 29) ?_ ?_
 ·exact ⟨Nat.zero_le _, rfl, Fed.nil _, uB0, ux0⟩
 rintro ⟨i, N⟩ h6 ⟨hi, hNi, hF, uBi, uxi⟩
 show W _ _ _ _ _ [(28, .int .i64 ((L04.length : Int))), (27, s03), (6, .pointer (some ⟨b0, 0, none⟩)), (0, w), (29, .int .i64 ((i : Int)))] _
 refine Wr ?_
 refine Ly (Y_lss rfl rfl) ?_
 refine L_nil (X_then (W_seq ?_))
 refine W_splitd rfl (fun c => ?_) (fun c => ?_)
 ·refine Ws ?_
  refine W_sub _ (tk5 28 27 6 0 29) ?_
  refine W_seq (W_block (W_seq (W_region ?_)))
  refine Ly (Y_idxr Tryd.underlying22 (show _ = some 6 by kernel_rfl) rfl rfl rfl (hr05.ext uxi) (by omega) (by omega)) ?_
  refine Ly (Y_ldrA0 (k := ((i : Int)).toNat) (us := [.int .i64 ((at_mem L04 ((i : Int)).toNat).kind), str ((at_mem L04 ((i : Int)).toNat).path), .int .i64 ((at_mem L04 ((i : Int)).toNat).mode), str ((at_mem L04 ((i : Int)).toNat).target), .int .i64 ((at_mem L04 ((i : Int)).toNat).size), ((at_mem L04 ((i : Int)).toNat).dv)]) Tryd.underlying30 rfl (show _ = some 6 by kernel_rfl) rfl rfl (hr05.ext uxi) (by omega) rfl) ?_
  refine L_mks (M_alloc (u := .agg #[.int .i64 0, str [], .int .i64 0, str [], .int .i64 0, .slice none 0 0]) (by kernel_rfl)) rfl rfl rfl ?_
  rintro _ h7 ⟨rfl, hn9⟩
  have hk10 : Blk h7 h6.size [.int .i64 0, str [], .int .i64 0, str [], .int .i64 0, .slice none 0 0] := hn9.blk
  refine L_dos (D_store (us := [.int .i64 ((at_mem L04 ((i : Int)).toNat).kind), str ((at_mem L04 ((i : Int)).toNat).path), .int .i64 ((at_mem L04 ((i : Int)).toNat).mode), str ((at_mem L04 ((i : Int)).toNat).target), .int .i64 ((at_mem L04 ((i : Int)).toNat).size), ((at_mem L04 ((i : Int)).toNat).dv)]) (show _ = some 6 by kernel_rfl) rfl rfl rfl (by intro u_ hu_; simp only [List.mem_cons, List.not_mem_nil, or_false] at hu_; rcases hu_ with rfl | rfl | rfl | rfl | rfl | rfl <;> first | rfl | exact ((show Bytes _ ((at_mem L04 ((i : Int)).toNat).dv) ((at_mem L04 ((i : Int)).toNat).data) from (hr05.ext (uxi.trans hn9.ext)).okat (k := ((i : Int)).toNat) (by omega))).cell1) hk10 (by simp)) rfl rfl ?_
  rintro h8 hp11
  have hk12 : Blk h8 h6.size [.int .i64 ((at_mem L04 ((i : Int)).toNat).kind), str ((at_mem L04 ((i : Int)).toNat).path), .int .i64 ((at_mem L04 ((i : Int)).toNat).mode), str ((at_mem L04 ((i : Int)).toNat).target), .int .i64 ((at_mem L04 ((i : Int)).toNat).size), ((at_mem L04 ((i : Int)).toNat).dv)] := hp11.blk
  refine Nx ?_
  refine W_sub _ (tk6 8 28 27 6 0 29) ?_
  have hX := fed_sz hz hM okA.2.2 (i := i) (by omega)
  have e0 := fed_err hF hC hM (i := i) (by omega) hNi
  refine Wr ?_
  refine Mv ?_
  refine Ly (Y_ldbox (us := [.int .i64 ((at_mem L04 ((i : Int)).toNat).kind), str ((at_mem L04 ((i : Int)).toNat).path), .int .i64 ((at_mem L04 ((i : Int)).toNat).mode), str ((at_mem L04 ((i : Int)).toNat).target), .int .i64 ((at_mem L04 ((i : Int)).toNat).size), ((at_mem L04 ((i : Int)).toNat).dv)]) Tryd.underlying30 rfl (show _ = some 6 by kernel_rfl) rfl hk12 rfl) ?_
  have me1 := (((hx1.trans hx7).trans uxi).trans hn9.ext).then' hp11.only (by simp) (Nat.le_trans (Nat.le_trans hx1.size hx7.size) uxi.size)
  refine L_call (E_call (by kernel_rfl) rfl) (bl_Add (hK.ext me1) (hE.ext me1) uBi (hn9.ext.then' hp11.only (by simp) (Nat.le_refl _)) ((uxi.trans hn9.ext).then' hp11.only (by simp) uxi.size) (at_mem L04 ((i : Int)).toNat) ((hr05.ext ((uxi.trans hn9.ext).then' hp11.only (by simp) uxi.size)).2 _ (bm_mem (l := L04) (k := ((i : Int)).toNat) (by omega))) (by omega) hX) rfl rfl rfl ?_
  rintro _ h9 ⟨rfl, ⟨us6, uy6, ug6, ul6⟩, uo6⟩
  obtain ⟨d6, uB6⟩ := (uo6.resolve_left (fun q => q.1 e0)).2
  refine Ly (Y_neq rfl rfl) ?_
  refine Nx ?_
  refine W_sub _ (tk6 36 28 27 6 0 29) ?_
  refine W_known false rfl (by exact decide_eq_false (by exact fun q => q e0)) ?_
  refine W_skip (X_block (X_then ?_))
  refine W_sub _ (tk5 28 27 6 0 29) ?_
  refine W_region ?_
  refine Ly (Y_add rfl rfl (by omega) (by omega)) ?_
  refine Mv ?_
  refine L_nil ?_
  refine X_loop ((i + 1, N ++ [bnod N (at_mem L04 ((i : Int)).toNat) d6])) (tk5 28 27 6 0 29) ?_ ?_
  ·exact ⟨by omega, by simp; omega, fed_add hF hC hM (by omega) hNi d6, uB6, (((uxi.trans hn9.ext).then' hp11.only (by simp) uxi.size).then' uy6 ug6 (Nat.le_refl _))⟩
  (try dsimp only)
  omega
 refine W_exit ?_
 refine X_then_exit (X_then_exit ?_)
 refine X_block_hit ?_
 refine X_then ?_
 refine W_sub _ (tk2 6 0) ?_
 refine Wr ?_
 refine L_call (E_call (by kernel_rfl) rfl) (law15_alive _ (hK.ext ((hx1.trans hx7).trans uxi)) (hE.ext ((hx1.trans hx7).trans uxi))) rfl rfl rfl ?_
 rintro _ h10 ⟨rfl, hx13⟩
 refine Mv ?_
 refine Mv ?_
 refine L_call (E_call (by kernel_rfl) rfl) (bl_Nodes (hK.ext (((hx1.trans hx7).trans uxi).trans hx13)) (hE.ext (((hx1.trans hx7).trans uxi).trans hx13)) (uBi.ext hx13) (by omega)) rfl rfl rfl ?_
 rintro uv7 h11 ⟨uR7, uL7, uq7, ux7⟩
 refine Mv ?_
 refine L_call (E_call (by kernel_rfl) rfl) (ref13_Canon _ w l (hl.ext ((((hx1.trans hx7).trans uxi).trans hx13).trans ux7)) okA.2.1 okA.2.2) rfl rfl rfl ?_
 rintro s014 h12 ⟨_, L015, rfl, hr016, hq017, hx18⟩
 refine L_call (E_call (by kernel_rfl) rfl) (ref13_Same _ uv7 uR7 (uL7.ext hx18) s014 L015 hr016 (by have := uq7.1; omega)) rfl rfl rfl ?_
 rintro _ h13 ⟨rfl, hx19⟩
 refine Ly (Y_pick_t rfl rfl) ?_
 refine Av ?_
 refine Nx ?_
 refine W_sub _ (tk1 2) ?_
 refine W_ret ?_
 refine X_ret1 rfl rfl ?_
 have hN := hF.all hC (by rw [cno_len]; omega)
 have me2 := ((((hx1.trans hx7).trans uxi).trans hx13).trans ux7).trans hx18
 exact ⟨congrArg Value.bool (inv_same hN uq7 (by assumption)), (me2.trans hx19)⟩
end Go.Xp
