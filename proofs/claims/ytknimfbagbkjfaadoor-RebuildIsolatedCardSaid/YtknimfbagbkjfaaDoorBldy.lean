/- Layer 15 (rebuild): what was added and what Nodes gives stand alone. -/
import Derived.Test.YtknimfbagbkjfaaDoorBldw
import Derived.Test.YtknimfbagbkjfaaDoorFlaQ
import Derived.Test.YtknimfbagbkjfaaDoorCanI
set_option linter.unusedSimpArgs false
set_option linter.unusedVariables false
set_option linter.unusedSectionVars false
namespace Go.Xp
open Go.Proofs

theorem dlq_of {l : List Nod} (h : ∀ x ∈ l, x.path.length ≤ 100000000000 ∧ x.target.length ≤ 100000000000 ∧ x.data.length ≤ 100000000000) (j : Nat) : (at_nod l j).data.length ≤ 100000000000 := by
  by_cases hj : j < l.length
  · exact (h _ (can_mem hj)).2.2
  · unfold at_nod
    rw [List.getD_eq_getElem?_getD, List.getElem?_eq_none (by omega)]; exact Nat.zero_le _
theorem dlq_set {l : List Nod} {i : Nat} {y : Nod} (h : ∀ j, (at_nod l j).data.length ≤ 100000000000) (hy : y.data.length ≤ 100000000000) (j : Nat) : (at_nod (l.set i y) j).data.length ≤ 100000000000 := by
  by_cases hj : i = j ∧ i < l.length
  · obtain ⟨rfl, hj⟩ := hj
    rw [at_set hj]; exact hy
  · have : at_nod (l.set i y) j = at_nod l j := by
      unfold at_nod
      rw [List.getD_eq_getElem?_getD, List.getD_eq_getElem?_getD, List.getElem?_set]
      by_cases e : i = j
      · subst e
        have : ¬ i < l.length := fun q => hj ⟨rfl, q⟩
        simp [this]
      · simp [e]
    rw [this]; exact h j
set_option maxRecDepth 100000 in
theorem builder_NodesR (h : Heap) (hK : GlbK h) (hE : GlbE h) (b : Nat) (v : Value) (L : List Nod) (hL : Rows nodS h v L) (m1 : Nat) (D : List (List UInt8)) (hD : SetK h m1 D) (m2 : Nat) (F : List (List UInt8 × Int)) (hF : MapF h m2 F) (hb : Blk h b [v, .map (some m1), .map (some m2)]) (hm : L.length ≤ 1000000000) (hs : ∀ x ∈ L, x.path.length ≤ 100000000000 ∧ x.target.length ≤ 100000000000 ∧ x.data.length ≤ 100000000000) : Cal Tryd.prog 14 #[.pointer (some ⟨b, 0, none⟩)] h (fun v h' => v = .slice (some ⟨h.size, 0, none⟩) L.length L.length ∧ Ext h h' ∧ ∃ L', RBuf nodS h' h.size (fun b => b ≠ h.size ∧ h.size ≤ b) L' ∧ (L'.length = L.length ∧ L'.map er = cno L ∧ ∀ x ∈ L', OwnB h' (h.size + 1) x.dv x.data)) := by
 refine Cal_enter (args := [.pointer (some ⟨b, 0, none⟩)]) Tryd.func14 rfl rfl rfl (fun σ => ?_)
 refine Wr ?_
 refine Av ?_
 refine L_nil (X_then (W_seq (W_seq (W_region ?_))))
 refine Mv ?_
 refine Ly (Y_pnil (ad := some ⟨b, 0, none⟩) (show _ = some (TypeDesc.pointer (Tryd.prog.pointee 23)) by kernel_rfl) rfl rfl) ?_
 refine Nx ?_
 refine W_sub _ (tk3 4 2 0) ?_
 refine W_false rfl ?_
 refine Ws ?_
 refine W_sub _ (tk2 2 0) ?_
 refine Wr ?_
 refine Mv ?_
 refine Ly (Y_nilCheck rfl) ?_
 refine Ly (Y_fieldAddr (off := 0) (by kernel_rfl) rfl rfl) ?_
 refine Ly (Y_ldblk Tryd.underlying32 rfl rfl hb rfl) ?_
 refine L_call (E_call (by kernel_rfl) rfl) (tree_CanonR _ v L hL (by omega) (fun x hx => by have := hs x hx; omega)) rfl rfl rfl ?_
 rintro _ h1 ⟨rfl, ux9, uR9, ub9, uq9⟩
 have up9 : ¬ (fun b : Nat => b ≠ h.size ∧ h.size ≤ b) h.size := fun q => q.1 rfl
 refine Av ?_
 refine Nx ?_
 refine W_sub _ (tk1 2) ?_
 refine W_ret ?_
 refine X_ret1 rfl rfl ?_
 exact ⟨rfl, ux9, _, ub9, uq9⟩
theorem bl_NodesB {h0 h : Heap} {b : Nat} {N : List Nod} (hK : GlbK h) (hE : GlbE h) (B : BL h0 h b N) (hm : N.length ≤ 1000000000) :
    Cal Tryd.prog 14 #[.pointer (some ⟨b, 0, none⟩)] h (fun v h' => v = .slice (some ⟨h.size, 0, none⟩) N.length N.length ∧ Ext h h' ∧ ∃ L', RBuf nodS h' h.size (fun b => b ≠ h.size ∧ h.size ≤ b) L' ∧ (L'.length = N.length ∧ L'.map er = cno N ∧ ∀ x ∈ L', OwnB h' (h.size + 1) x.dv x.data)) := by
  obtain ⟨⟨m1, m2, w, s, l, ne, hn⟩, ok, sz⟩ := B
  exact builder_NodesR h hK hE b w N s.rows.rows m1 _ s.dirs m2 _ s.files s.blk hm sz
theorem bl_AddI {h0 h hq : Heap} {b : Nat} {N : List Nod} (hK : GlbK h) (hE : GlbE h) (B : BL h0 hq b N) (xq : Ext hq h) (x0 : Ext h0 h) (x : Mem) (hd : memS.ok h x) (hm : N.length ≤ 1000000000) (hx : x.path.length ≤ 100000000000 ∧ x.target.length ≤ 100000000000 ∧ x.data.length ≤ 100000000000) (e0 : berr N x = 0) :
    Cal Tryd.prog 12 #[.pointer (some ⟨b, 0, none⟩), .agg #[.int .i64 x.kind, str x.path, .int .i64 x.mode, str x.target, .int .i64 x.size, x.dv]] h
      (fun v h' => v = .int .i64 (berr N x) ∧ (∃ bs, Only bs h h' ∧ (∀ c ∈ bs, h0.size ≤ c) ∧ (∀ c ∈ bs, c < hq.size) ∧ ∀ (d : Nat) (k : Int), cellAt h d 0 = some (.int .u8 k) → d ∉ bs) ∧ ∃ dv, BL h0 h' b (N ++ [bnod N x dv]) ∧ ∀ a, a < h.size → (∀ y ∈ N, blk2 y.dv ≠ some a) → ∀ y ∈ N ++ [bnod N x dv], blk2 y.dv ≠ some a) :=
  (bl_AddY hK hE B xq x0 x hd hm hx).mono fun v h' ⟨e, ⟨bs, q1, q2, q3, q4, q5, q6⟩, q⟩ => ⟨e, ⟨bs, q1, q2, q3, q6⟩, (q.resolve_left (fun r => r.1 e0)).2⟩
theorem BL.old {h0 h : Heap} {b : Nat} {N : List Nod} (B : BL h0 h b N) {a : Nat} (ha : h.size ≤ a) : ∀ y ∈ N, blk2 y.dv ≠ some a := fun y hy e => by
  obtain ⟨⟨m1, m2, w, s, l, ne, hn⟩, ok, sz⟩ := B
  obtain ⟨c, hc⟩ := (s.off y hy).2 a e
  have := cellAt_lt hc
  omega
theorem own_over {h h' : Heap} {base : Nat} {v : Value} {l : List UInt8} {bs : List Nat} (o : OwnB h base v l) (y : Only bs h h') (hlt : ∀ c ∈ bs, c < base) : OwnB h' base v l :=
  Own.only o y (fun c hc hM => Nat.lt_irrefl _ (Nat.lt_of_lt_of_le (hlt c hM) (Own.lt o c hc).1))
theorem own_ge {h : Heap} {base : Nat} {v : Value} {l : List UInt8} (o : OwnB h base v l) {a : Nat} (ha : a ∈ (blockOf v).toList) : base ≤ a ∧ a < h.size := Own.lt o a (by simpa using ha)
set_option maxRecDepth 100000 in
theorem rebuildIsolated (h : Heap) (hK : GlbK h) (hE : GlbE h) (w : Value) (l : List Nod) (hl : Rows nodS h w l) (hn : l.length * 80 ≤ 140737488355328) (hs : ∀ x ∈ l, x.path.length ≤ 140737488355328 ∧ x.target.length ≤ 140737488355328 ∧ x.data.length ≤ 140737488355328) : Cal Tryd.prog 4 #[w] h (fun v h' => v = .bool true ∧ Ext h h') := by
 refine Cal_enter (args := [w]) Tryd.func4 rfl rfl rfl (fun σ => ?_)
 refine Wr ?_
 refine Av ?_
 refine L_nil (X_then (W_seq (W_region ?_)))
 refine Mv ?_
 refine L_call (E_call (by kernel_rfl) rfl) (ref14_MembersW _ w l hl hn hs) rfl rfl rfl ?_
 rintro _ h1 ⟨s01, L02, rfl, hr03, hq04, hx5⟩
 refine Mv ?_
 refine Ly (Y_extract (v := s01) rfl rfl) ?_
 refine Ly (Y_extract (v := .int .i64 (tpos l)) rfl rfl) ?_
 refine Ly (Y_extract (v := .int .i64 (terr l)) rfl rfl) ?_
 refine Av ?_
 refine Av ?_
 refine Av ?_
 refine Nx ?_
 refine W_sub _ (tk4 5 3 2 0) ?_
 refine Wr ?_
 refine L_call (E_call (by kernel_rfl) rfl) (bl_New _) rfl rfl rfl ?_
 rintro _ h2 ⟨b0, rfl, uB0, ux0⟩
 refine Av ?_
 refine Nx ?_
 refine W_sub _ (tk5 6 5 3 2 0) ?_
 refine W_seq (W_seq (W_region ?_))
 refine Mv ?_
 refine L_call (E_call (by kernel_rfl) rfl) (law13_TooLarge _ w l (hl.ext (hx5.trans ux0)) (by omega) hs) rfl rfl rfl ?_
 rintro _ h3 ⟨rfl, hx6⟩
 refine Ly (Y_gtr rfl rfl) ?_
 refine Mv ?_
 refine L_splitd (d := 24) rfl (fun g => ?_) (fun g => ?_)
 ·refine Skp ?_
  refine Skp ?_
  refine Ly (Y_pick_t rfl rfl) ?_
  refine Mv ?_
  refine Skp ?_
  refine Skp ?_
  refine Ly (Y_pick_t rfl rfl) ?_
  refine Nx ?_
  refine W_sub _ (tk5 31 6 3 2 0) ?_
  refine W_true rfl ?_
  refine Wr ?_
  refine L_call (E_call (by kernel_rfl) rfl) (law15_alive _ (hK.ext ((hx5.trans ux0).trans hx6)) (hE.ext ((hx5.trans ux0).trans hx6))) rfl rfl rfl ?_
  rintro _ h4 ⟨rfl, hx7⟩
  refine Av ?_
  refine Nx ?_
  refine W_sub _ (tk4 2 6 3 0) ?_
  refine W_ret (X_then_ret ?_)
  refine X_ret1 rfl rfl ?_
  exact ⟨rfl, (((hx5.trans ux0).trans hx6).trans hx7)⟩
 refine Ly (Y_move rfl) ?_
 refine Ly (Y_neq rfl rfl) ?_
 refine Ly (Y_pick_f rfl rfl) ?_
 refine Mv ?_
 refine L_splitd (d := 28) rfl (fun e => ?_) (fun e => ?_)
 ·refine Skp ?_
  refine Skp ?_
  refine Ly (Y_pick_t rfl rfl) ?_
  refine Nx ?_
  refine W_sub _ (tk5 31 6 3 2 0) ?_
  refine W_true rfl ?_
  refine Wr ?_
  refine L_call (E_call (by kernel_rfl) rfl) (law15_alive _ (hK.ext ((hx5.trans ux0).trans hx6)) (hE.ext ((hx5.trans ux0).trans hx6))) rfl rfl rfl ?_
  rintro _ h5 ⟨rfl, hx8⟩
  refine Av ?_
  refine Nx ?_
  refine W_sub _ (tk4 2 6 3 0) ?_
  refine W_ret (X_then_ret ?_)
  refine X_ret1 rfl rfl ?_
  exact ⟨rfl, (((hx5.trans ux0).trans hx6).trans hx8)⟩
 refine Ly (Y_move rfl) ?_
 refine Ly (Y_pnil (ad := some ⟨b0, 0, none⟩) (show _ = some (TypeDesc.pointer (Tryd.prog.pointee 23)) by kernel_rfl) rfl rfl) ?_
 refine Ly (Y_pick_f rfl rfl) ?_
 refine Nx ?_
 refine W_sub _ (tk5 31 6 3 2 0) ?_
 refine W_false rfl ?_
 refine Ws ?_
 refine W_sub _ (tk4 6 3 2 0) ?_
 have okA := can_okl g
 have hz := Classical.not_not.1 e
 have hM := mbs_mem1 hq04 hz
 have hC := Cano.of (tok_of hz).set
 have hml := om_len hM
 rw [cno_len] at hml
 refine W_seq (W_seq (W_region ?_))
 refine Mv ?_
 refine Ly (Y_lenr Tryd.underlying22 rfl (hr03.ext (ux0.trans hx6))) ?_
 refine Mv ?_
 refine Nx ?_
 refine W_sub _ (tk6 35 34 33 6 2 0) ?_
 refine W_block ?_
 refine W_loop (S := Nat × List Nod) (fun (i, N) => [(34, .int .i64 ((L02.length : Int))), (33, s01), (6, .pointer (some ⟨b0, 0, none⟩)), (0, w), (35, .int .i64 ((i : Int)))]) (fun (i, N) h' => i ≤ (L02).length ∧ N.length = i ∧ Fed (cno l) N ∧ BL h1 h' b0 N ∧ Ext h1 h') (fun (i, N) => (L02).length - i) (0, []) (tk5 34 33 6 0 35) ?_ ?_
 ·exact ⟨Nat.zero_le _, rfl, Fed.nil _, (uB0.ext hx6), (ux0.trans hx6)⟩
 rintro ⟨i, N⟩ h6 ⟨hi, hNi, hF, uBi, uxi⟩
 show W _ _ _ _ _ [(34, .int .i64 ((L02.length : Int))), (33, s01), (6, .pointer (some ⟨b0, 0, none⟩)), (0, w), (35, .int .i64 ((i : Int)))] _
 refine Wr ?_
 refine Ly (Y_lss rfl rfl) ?_
 refine L_nil (X_then (W_seq ?_))
 refine W_splitd rfl (fun c => ?_) (fun c => ?_)
 ·refine Ws ?_
  refine W_sub _ (tk5 34 33 6 0 35) ?_
  refine W_seq (W_block (W_seq (W_region ?_)))
  refine Ly (Y_idxr Tryd.underlying22 (show _ = some 6 by kernel_rfl) rfl rfl rfl (hr03.ext uxi) (by first | omega | (simp; omega)) (by first | omega | (simp; omega))) ?_
  refine Ly (Y_ldrA0 (k := ((i : Int)).toNat) (us := [.int .i64 ((at_mem L02 ((i : Int)).toNat).kind), str ((at_mem L02 ((i : Int)).toNat).path), .int .i64 ((at_mem L02 ((i : Int)).toNat).mode), str ((at_mem L02 ((i : Int)).toNat).target), .int .i64 ((at_mem L02 ((i : Int)).toNat).size), ((at_mem L02 ((i : Int)).toNat).dv)]) Tryd.underlying30 rfl (show _ = some 6 by kernel_rfl) rfl rfl (hr03.ext uxi) (by first | omega | (simp; omega)) rfl) ?_
  refine L_mks (M_alloc (u := .agg #[.int .i64 0, str [], .int .i64 0, str [], .int .i64 0, .slice none 0 0]) (by kernel_rfl)) rfl rfl rfl ?_
  rintro _ h7 ⟨rfl, hn9⟩
  have hk10 : Blk h7 h6.size [.int .i64 0, str [], .int .i64 0, str [], .int .i64 0, .slice none 0 0] := hn9.blk
  refine L_dos (D_store (us := [.int .i64 ((at_mem L02 ((i : Int)).toNat).kind), str ((at_mem L02 ((i : Int)).toNat).path), .int .i64 ((at_mem L02 ((i : Int)).toNat).mode), str ((at_mem L02 ((i : Int)).toNat).target), .int .i64 ((at_mem L02 ((i : Int)).toNat).size), ((at_mem L02 ((i : Int)).toNat).dv)]) (show _ = some 6 by kernel_rfl) rfl rfl rfl (by intro u_ hu_; simp only [List.mem_cons, List.not_mem_nil, or_false] at hu_; rcases hu_ with rfl | rfl | rfl | rfl | rfl | rfl <;> first | rfl | exact ((show Bytes _ ((at_mem L02 ((i : Int)).toNat).dv) ((at_mem L02 ((i : Int)).toNat).data) from (hr03.ext (uxi.trans hn9.ext)).okat (k := ((i : Int)).toNat) (by first | omega | (simp; omega)))).cell1) hk10 (by simp)) rfl rfl ?_
  rintro h8 hp11
  have hk12 : Blk h8 h6.size [.int .i64 ((at_mem L02 ((i : Int)).toNat).kind), str ((at_mem L02 ((i : Int)).toNat).path), .int .i64 ((at_mem L02 ((i : Int)).toNat).mode), str ((at_mem L02 ((i : Int)).toNat).target), .int .i64 ((at_mem L02 ((i : Int)).toNat).size), ((at_mem L02 ((i : Int)).toNat).dv)] := hp11.blk
  refine Nx ?_
  refine W_sub _ (tk6 8 34 33 6 0 35) ?_
  have hX := fed_sz hz hM okA.2.2 (i := i) (by omega)
  have e0 := fed_err hF hC hM (i := i) (by omega) hNi
  refine Wr ?_
  refine L_mks (M_litbE (cells := []) (E := 5) rfl rfl (fun _ => by kernel_rfl)) rfl rfl rfl ?_
  rintro v13 h9 ⟨ho14, hx15⟩
  refine Ly (Y_fieldAddr (off := 5) (by kernel_rfl) rfl rfl) ?_
  refine Ly (Y_ldblk Tryd.underlying28 rfl rfl (hk12.ext hx15) rfl) ?_
  have me1 := ((uxi.trans hn9.ext).then' hp11.only (by simp) uxi.size).trans hx15
  refine L_mks (M_appeB Tryd.underlying28 (by unfold elemRow; kernel_rfl) rfl rfl ho14 (show Bytes _ ((at_mem L02 ((i : Int)).toNat).dv) ((at_mem L02 ((i : Int)).toNat).data) from (hr03.ext me1).okat (k := ((i : Int)).toNat) (by first | omega | (simp; omega))) hx15.size (by first | first | omega | (simp; omega) | (simp; first | omega | (simp; omega)))) rfl rfl rfl ?_
  rintro v16 h10 ⟨ho17, hx18, ho17f⟩
  refine Av ?_
  refine Nx ?_
  refine W_sub _ (tk7 9 8 34 33 6 0 35) ?_
  have uo9 := ho17
  refine W_seq (W_seq (W_region ?_))
  refine Mv ?_
  refine Ly (Y_fieldAddr (off := 0) (by kernel_rfl) rfl rfl) ?_
  refine Ly (Y_ldbox (us := [.int .i64 ((at_mem L02 ((i : Int)).toNat).kind), str ((at_mem L02 ((i : Int)).toNat).path), .int .i64 ((at_mem L02 ((i : Int)).toNat).mode), str ((at_mem L02 ((i : Int)).toNat).target), .int .i64 ((at_mem L02 ((i : Int)).toNat).size)]) Tryd.underlying27 rfl (show _ = some 5 by kernel_rfl) rfl (hk12.ext (hx15.trans hx18)) rfl) ?_
  refine Mv ?_
  refine Ly (Y_build (v := .agg #[.int .i64 ((at_mem L02 ((i : Int)).toNat).kind), str ((at_mem L02 ((i : Int)).toNat).path), .int .i64 ((at_mem L02 ((i : Int)).toNat).mode), str ((at_mem L02 ((i : Int)).toNat).target), .int .i64 ((at_mem L02 ((i : Int)).toNat).size), v16]) (pv := [(0, .agg #[.int .i64 ((at_mem L02 ((i : Int)).toNat).kind), str ((at_mem L02 ((i : Int)).toNat).path), .int .i64 ((at_mem L02 ((i : Int)).toNat).mode), str ((at_mem L02 ((i : Int)).toNat).target), .int .i64 ((at_mem L02 ((i : Int)).toNat).size)]), (1, v16)]) (evp (is := [0, 1]) (os := [.tmp 45, .tmp 46]) (vs := [.agg #[.int .i64 ((at_mem L02 ((i : Int)).toNat).kind), str ((at_mem L02 ((i : Int)).toNat).path), .int .i64 ((at_mem L02 ((i : Int)).toNat).mode), str ((at_mem L02 ((i : Int)).toNat).target), .int .i64 ((at_mem L02 ((i : Int)).toNat).size)], v16]) rfl rfl) (fun _ => by obtain ⟨_, _, _, hf1_⟩ := slice_formO ho17.bytes; rw [hf1_]; kernel_rfl)) ?_
  have me2 := ((hx5.trans uxi).trans hn9.ext).then' hp11.only (by simp) (Nat.le_trans hx5.size uxi.size)
  have me3 := (hn9.ext.then' hp11.only (by simp) (Nat.le_refl _)).trans hx15
  refine L_call (E_call (by kernel_rfl) rfl) (bl_AddI (hK.ext ((me2.trans hx15).trans hx18)) (hE.ext ((me2.trans hx15).trans hx18)) uBi (me3.trans hx18) (me1.trans hx18) (wdv (at_mem L02 ((i : Int)).toNat) v16) ho17.bytes (by omega) hX e0) rfl rfl rfl ?_
  rintro _ h11 ⟨rfl, ⟨us6, uy6, ug6, ul6, uo6⟩, d6, uB6, un6⟩
  refine Ly (Y_neq rfl rfl) ?_
  refine Nx ?_
  refine W_sub _ (tk7 49 9 34 33 6 0 35) ?_
  refine W_known false rfl (by exact decide_eq_false (by exact fun q => q e0)) ?_
  refine Ws ?_
  refine W_sub _ (tk6 9 34 33 6 0 35) ?_
  have uz9 := (Nat.le_trans hn9.ext.size hp11.only.size)
  have uo7 := own_over uo9 uy6 (fun c hc => Nat.lt_of_lt_of_le (ul6 c hc) uz9)
  have ua9 := fun (a : Nat) (ha : a ∈ (blockOf v16).toList) => un6 a (own_ge uo9 ha).2 (uBi.old (Nat.le_trans uz9 (own_ge uo9 ha).1))
  refine Wr ?_
  refine Mv ?_
  refine Ly (Y_len Tryd.underlying28 rfl uo7.bytes) ?_
  refine Mv ?_
  refine Nx ?_
  refine W_sub _ (tk8 52 51 9 34 33 6 0 35) ?_
  refine W_block ?_
  refine W_loop (S := Nat × List UInt8) (fun (j, ld) => [(51, .int .i64 ((((at_mem L02 ((i : Int)).toNat).data).length : Int))), (34, .int .i64 ((L02.length : Int))), (33, s01), (6, .pointer (some ⟨b0, 0, none⟩)), (0, w), (35, .int .i64 ((i : Int))), (9, v16), (52, .int .i64 ((j : Int)))]) (fun (j, ld) h' => j ≤ ld.length ∧ ld.length = (((at_mem L02 ((i : Int)).toNat).data)).length ∧ BL h1 h' b0 (N ++ [bnod N (at_mem L02 ((i : Int)).toNat) d6]) ∧ Ext h1 h' ∧ OwnB h' h8.size v16 ld) (fun (j, ld) => ld.length - j) (0, ((at_mem L02 ((i : Int)).toNat).data)) (tk8 51 34 33 6 0 35 9 52) ?_ ?_
  ·exact ⟨Nat.zero_le _, rfl, uB6, ((me1.trans hx18).then' uy6 ug6 (Nat.le_refl _)), uo7⟩
  rintro ⟨j, ld⟩ h12 ⟨hj, hld, uBj, uxj, uoJ⟩
  show W _ _ _ _ _ [(51, .int .i64 ((((at_mem L02 ((i : Int)).toNat).data).length : Int))), (34, .int .i64 ((L02.length : Int))), (33, s01), (6, .pointer (some ⟨b0, 0, none⟩)), (0, w), (35, .int .i64 ((i : Int))), (9, v16), (52, .int .i64 ((j : Int)))] _
  refine Wr ?_
  refine Ly (Y_lss rfl rfl) ?_
  refine L_nil (X_then (W_seq ?_))
  refine W_splitd rfl (fun cj => ?_) (fun cj => ?_)
  ·refine Ws ?_
   refine W_sub _ (tk8 51 34 33 6 0 35 9 52) ?_
   refine W_seq (W_block (W_seq (W_region ?_)))
   refine Mv ?_
   refine Av ?_
   refine Nx ?_
   refine W_sub _ (sk1 10 rfl (tk8 51 34 33 6 0 35 9 52)) ?_
   refine W_region ?_
   refine Mv ?_
   refine Mv ?_
   refine Ly (Y_idx Tryd.underlying28 (show _ = some 1 by kernel_rfl) rfl rfl uoJ.bytes (by first | omega | (simp; omega)) (by first | omega | (simp; omega))) ?_
   refine Ly (Y_ldbyte Tryd.underlying5 rfl rfl uoJ.bytes (by first | omega | (simp; omega)) (by first | omega | (simp; omega))) ?_
   refine Ly (Y_xoru8 rfl rfl) ?_
   refine Ly (Y_idx Tryd.underlying28 (show _ = some 1 by kernel_rfl) rfl rfl uoJ.bytes (by first | omega | (simp; omega)) (by first | omega | (simp; omega))) ?_
   refine L_dos (D_storeo (show _ = some 1 by kernel_rfl) rfl rfl (by first | exact ux_le _ _ | omega) uoJ (by first | omega | (simp; omega))) rfl rfl ?_
   rintro h13 ha19
   refine L_nil (X_block (X_then ?_))
   refine W_sub _ (tk8 51 34 33 6 0 35 9 52) ?_
   have uB8 := BL.own uBj uoJ (fun q => by have h9 := congrArg List.length q; simp only [List.length_nil] at h9; omega) ua9 ha19.only
   refine W_region ?_
   refine Ly (Y_add rfl rfl (by first | omega | (simp; omega)) (by first | omega | (simp; omega))) ?_
   refine Mv ?_
   refine L_nil ?_
   refine X_loop ((j + 1, (ld.set ((j : Int)).toNat (ux (byt ld ((j : Int)).toNat) 255).toNat.toUInt8))) (tk8 51 34 33 6 0 35 9 52) ?_ ?_
   ·exact ⟨by simp; omega, by simp [hld], uB8, (uxj.then' ha19.only ha19.ge (Nat.le_trans (Nat.le_trans uxi.size hn9.ext.size) hp11.only.size)), ha19.own⟩
   (try dsimp only)
   (simp only [List.length_set]; omega)
  refine W_exit ?_
  refine X_then_exit (X_then_exit ?_)
  refine X_block_hit ?_
  refine X_block (X_then ?_)
  refine W_sub _ (tk5 34 33 6 0 35) ?_
  refine W_region ?_
  refine Ly (Y_add rfl rfl (by first | omega | (simp; omega)) (by first | omega | (simp; omega))) ?_
  refine Mv ?_
  refine L_nil ?_
  refine X_loop ((i + 1, N ++ [bnod N (at_mem L02 ((i : Int)).toNat) d6])) (tk5 34 33 6 0 35) ?_ ?_
  ·exact ⟨by omega, by simp; omega, fed_add hF hC hM (by omega) hNi d6, uBj, uxj⟩
  (try dsimp only)
  omega
 refine W_exit ?_
 refine X_then_exit (X_then_exit ?_)
 refine X_block_hit ?_
 refine X_then ?_
 refine W_sub _ (tk2 6 0) ?_
 have uBN := uBi
 refine Wr ?_
 refine Mv ?_
 refine L_call (E_call (by kernel_rfl) rfl) (bl_NodesB (hK.ext (hx5.trans uxi)) (hE.ext (hx5.trans uxi)) uBi (by omega)) rfl rfl rfl ?_
 rintro _ h14 ⟨rfl, ux9, uR9, ub9, uq9⟩
 have up9 : ¬ (fun b : Nat => b ≠ h6.size ∧ h6.size ≤ b) h6.size := fun q => q.1 rfl
 refine Av ?_
 refine Nx ?_
 refine W_sub _ (tk3 11 6 0) ?_
 have urA : RCan h14 h6.size uR9 := ⟨ub9, uq9.2.2⟩
 refine W_seq (W_seq (W_region ?_))
 refine Mv ?_
 refine Ly (Y_lenr Tryd.underlying32 rfl (ub9.rows (by first | omega | (simp; omega)))) ?_
 refine Mv ?_
 refine Nx ?_
 refine W_sub _ (tk5 67 66 11 6 0) ?_
 refine W_block ?_
 refine W_loop (S := Nat × List Nod) (fun (i2, Lc) => [(66, .int .i64 ((uR9.length : Int))), (11, .slice (some ⟨h6.size, 0, none⟩) N.length N.length), (6, .pointer (some ⟨b0, 0, none⟩)), (0, w), (67, .int .i64 ((i2 : Int)))]) (fun (i2, Lc) h' => i2 ≤ N.length ∧ Lc.length = N.length ∧ (∀ j, (at_nod Lc j).data.length ≤ 100000000000) ∧ Ext h6 h' ∧ RBuf nodS h' h6.size (fun b => b ≠ h6.size ∧ h6.size ≤ b) Lc ∧ RCan h' h6.size Lc) (fun (i2, Lc) => N.length - i2) (0, uR9) (tk5 66 11 6 0 67) ?_ ?_
 ·exact ⟨Nat.zero_le _, uq9.1, dlq_of (can_all (P := okl) ⟨uq9.1, uq9.2.1⟩ uBi.sz), ux9, ub9, urA⟩
 rintro ⟨i2, Lc⟩ h15 ⟨hi2, hLl, hdl, hxA, hbA, hrA⟩
 show W _ _ _ _ _ [(66, .int .i64 ((uR9.length : Int))), (11, .slice (some ⟨h6.size, 0, none⟩) N.length N.length), (6, .pointer (some ⟨b0, 0, none⟩)), (0, w), (67, .int .i64 ((i2 : Int)))] _
 refine Wr ?_
 refine Ly (Y_lss rfl rfl) ?_
 refine L_nil (X_then (W_seq ?_))
 refine W_splitd rfl (fun c7 => ?_) (fun c7 => ?_)
 ·refine Ws ?_
  refine W_sub _ (tk5 66 11 6 0 67) ?_
  refine W_seq (W_block (W_seq (W_region ?_)))
  refine Mv ?_
  refine Av ?_
  refine Nx ?_
  refine W_sub _ (tk6 12 66 11 6 0 67) ?_
  refine W_seq (W_seq (W_region ?_))
  refine Mv ?_
  refine Mv ?_
  refine Ly (Y_idxB Tryd.underlying32 (show _ = some 6 by kernel_rfl) rfl rfl (by first | omega | (simp; omega)) (by first | omega | (simp; omega))) ?_
  refine Ly (Y_fldB (off := 4) (by kernel_rfl) rfl) ?_
  refine Ly (Y_ldr1 (off := 4) (k := ((i2 : Int)).toNat) (u := ((at_nod Lc ((i2 : Int)).toNat).dv)) Tryd.underlying28 rfl rfl rfl (hbA.rows (by first | omega | (simp; omega))) (by first | omega | (simp; omega)) rfl) ?_
  refine Ly (Y_len Tryd.underlying28 rfl (show Bytes _ ((at_nod Lc ((i2 : Int)).toNat).dv) ((at_nod Lc ((i2 : Int)).toNat).data) from (hbA.okp (k := ((i2 : Int)).toNat) (by first | omega | (simp; omega))).1)) ?_
  refine Mv ?_
  refine Nx ?_
  refine W_sub _ (tk8 76 75 12 66 11 6 0 67) ?_
  refine W_block ?_
  refine W_loop (S := Nat × List Nod) (fun (k, Lk) => [(75, .int .i64 ((((at_nod Lc ((i2 : Int)).toNat).data).length : Int))), (12, .int .i64 ((i2 : Int))), (66, .int .i64 ((uR9.length : Int))), (11, .slice (some ⟨h6.size, 0, none⟩) N.length N.length), (6, .pointer (some ⟨b0, 0, none⟩)), (0, w), (67, .int .i64 ((i2 : Int))), (76, .int .i64 ((k : Int)))]) (fun (k, Lk) h' => k ≤ (at_nod Lc i2).data.length ∧ Lk.length = N.length ∧ (∀ j, (at_nod Lk j).data.length = (at_nod Lc j).data.length) ∧ Ext h6 h' ∧ RBuf nodS h' h6.size (fun b => b ≠ h6.size ∧ h6.size ≤ b) Lk ∧ RCan h' h6.size Lk) (fun (k, Lk) => (at_nod Lc i2).data.length - k) (0, Lc) (tk8 75 12 66 11 6 0 67 76) ?_ ?_
  ·exact ⟨Nat.zero_le _, hLl, fun j => rfl, hxA, hbA, hrA⟩
  rintro ⟨k, Lk⟩ h16 ⟨hk, hLk, hdk, hxB, hbB, hrB⟩
  show W _ _ _ _ _ [(75, .int .i64 ((((at_nod Lc ((i2 : Int)).toNat).data).length : Int))), (12, .int .i64 ((i2 : Int))), (66, .int .i64 ((uR9.length : Int))), (11, .slice (some ⟨h6.size, 0, none⟩) N.length N.length), (6, .pointer (some ⟨b0, 0, none⟩)), (0, w), (67, .int .i64 ((i2 : Int))), (76, .int .i64 ((k : Int)))] _
  have hd9 := hdl i2; have hd8 : (at_nod Lk ((i2 : Int)).toNat).data.length = (at_nod Lc ((i2 : Int)).toNat).data.length := hdk _; have hd7 : (at_nod Lc ((i2 : Int)).toNat).data.length = (at_nod Lc i2).data.length := rfl
  refine Wr ?_
  refine Ly (Y_lss rfl rfl) ?_
  refine L_nil (X_then (W_seq ?_))
  refine W_splitd rfl (fun c2 => ?_) (fun c2 => ?_)
  ·refine Ws ?_
   refine W_sub _ (tk8 75 12 66 11 6 0 67 76) ?_
   refine W_seq (W_block (W_seq (W_region ?_)))
   refine Mv ?_
   refine Av ?_
   refine Nx ?_
   refine W_sub _ (sk1 13 rfl (tk8 75 12 66 11 6 0 67 76)) ?_
   refine W_region ?_
   refine Mv ?_
   refine Mv ?_
   refine Ly (Y_idxB Tryd.underlying32 (show _ = some 6 by kernel_rfl) rfl rfl (by first | omega | (simp; omega)) (by first | omega | (simp; omega))) ?_
   refine Ly (Y_fldB (off := 4) (by kernel_rfl) rfl) ?_
   refine Ly (Y_ldr1 (off := 4) (k := ((i2 : Int)).toNat) (u := ((at_nod Lk ((i2 : Int)).toNat).dv)) Tryd.underlying28 rfl rfl rfl (hbB.rows (by first | omega | (simp; omega))) (by first | omega | (simp; omega)) rfl) ?_
   refine Mv ?_
   refine Ly (Y_idx Tryd.underlying28 (show _ = some 1 by kernel_rfl) rfl rfl (show Bytes _ ((at_nod Lk ((i2 : Int)).toNat).dv) ((at_nod Lk ((i2 : Int)).toNat).data) from (hbB.okp (k := ((i2 : Int)).toNat) (by first | omega | (simp; omega))).1) (by first | omega | (simp; omega)) (by first | omega | (simp; omega))) ?_
   refine Ly (Y_ldbyte Tryd.underlying5 rfl rfl (show Bytes _ ((at_nod Lk ((i2 : Int)).toNat).dv) ((at_nod Lk ((i2 : Int)).toNat).data) from (hbB.okp (k := ((i2 : Int)).toNat) (by first | omega | (simp; omega))).1) (by first | omega | (simp; omega)) (by first | omega | (simp; omega))) ?_
   refine Ly (Y_xoru8 rfl rfl) ?_
   refine Ly (Y_idx Tryd.underlying28 (show _ = some 1 by kernel_rfl) rfl rfl (show Bytes _ ((at_nod Lk ((i2 : Int)).toNat).dv) ((at_nod Lk ((i2 : Int)).toNat).data) from (hbB.okp (k := ((i2 : Int)).toNat) (by first | omega | (simp; omega))).1) (by first | omega | (simp; omega)) (by first | omega | (simp; omega))) ?_
   refine L_dos (D_anyb (B := h6.size) (i := ((i2 : Int)).toNat) (k := ((k : Int)).toNat) (L := Lk) (show _ = some 1 by kernel_rfl) rfl rfl (by first | exact ux_le _ _ | omega) hrB (by first | omega | (simp; omega)) (by first | omega | (simp; omega))) rfl rfl ?_
   rintro h17 ⟨D20, hD21, hx22, L23, hlC, hdC, hrC⟩
   have hb24 := hrC.1
   refine L_nil (X_block (X_then ?_))
   refine W_sub _ (tk8 75 12 66 11 6 0 67 76) ?_
   refine W_region ?_
   refine Ly (Y_add rfl rfl (by first | omega | (simp; omega)) (by first | omega | (simp; omega))) ?_
   refine Mv ?_
   refine L_nil ?_
   refine X_loop ((k + 1, L23)) (tk8 75 12 66 11 6 0 67 76) ?_ ?_
   ·exact ⟨by omega, by rw [hlC]; exact hLk, fun j => (hdC j).trans (hdk j), (hxB.then' hx22 hD21 (Nat.le_refl _)), hb24, hrC⟩
   (try dsimp only)
   omega
  refine W_exit ?_
  refine X_then_exit (X_then_exit ?_)
  refine X_block_hit ?_
  refine X_then ?_
  refine W_sub _ (tk6 12 66 11 6 0 67) ?_
  refine W_region ?_
  refine Mv ?_
  refine Mv ?_
  refine Ly (Y_idxB Tryd.underlying32 (show _ = some 6 by kernel_rfl) rfl rfl (by first | omega | (simp; omega)) (by first | omega | (simp; omega))) ?_
  refine Ly (Y_fldB (off := 5) (by kernel_rfl) rfl) ?_
  have hq27 : Okp nodS h16 (fun b : Nat => b ≠ h6.size ∧ h6.size ≤ b) (⟨(at_nod Lk ((i2 : Int)).toNat).kind, (at_nod Lk ((i2 : Int)).toNat).path, (at_nod Lk ((i2 : Int)).toNat).mode, (at_nod Lk ((i2 : Int)).toNat).target, (at_nod Lk ((i2 : Int)).toNat).dv, (at_nod Lk ((i2 : Int)).toNat).data, (99 : Int)⟩ : Nod) := (okp_fld (x := (at_nod Lk ((i2 : Int)).toNat)) rfl (hbB.okp (k := ((i2 : Int)).toNat) (by first | omega | (simp; omega))))
  refine L_dos (D_rset (S := nodS) (us := [.int .i64 99]) (a := (⟨(at_nod Lk ((i2 : Int)).toNat).kind, (at_nod Lk ((i2 : Int)).toNat).path, (at_nod Lk ((i2 : Int)).toNat).mode, (at_nod Lk ((i2 : Int)).toNat).target, (at_nod Lk ((i2 : Int)).toNat).dv, (at_nod Lk ((i2 : Int)).toNat).data, (99 : Int)⟩ : Nod)) (k := ((i2 : Int)).toNat) (off := 5) (show _ = some 1 by kernel_rfl) rfl rfl rfl rfl (by simp [Value.oneCell']) hbB (by first | omega | (simp; omega)) (show 6 ≤ 6 by decide) rfl hq27.1 hq27.2 up9) rfl rfl ?_
  rintro h18 ⟨hx25, -, hb26⟩
  refine L_nil (X_block (X_then ?_))
  refine W_sub _ (tk5 66 11 6 0 67) ?_
  refine W_region ?_
  refine Ly (Y_add rfl rfl (by first | omega | (simp; omega)) (by first | omega | (simp; omega))) ?_
  refine Mv ?_
  refine L_nil ?_
  refine X_loop ((i2 + 1, (Lk.set (((i2 : Int)).toNat) (⟨(at_nod Lk ((i2 : Int)).toNat).kind, (at_nod Lk ((i2 : Int)).toNat).path, (at_nod Lk ((i2 : Int)).toNat).mode, (at_nod Lk ((i2 : Int)).toNat).target, (at_nod Lk ((i2 : Int)).toNat).dv, (at_nod Lk ((i2 : Int)).toNat).data, (99 : Int)⟩ : Nod)))) (tk5 66 11 6 0 67) ?_ ?_
  ·exact ⟨by omega, by simp [hLk], dlq_set (fun j => by rw [hdk j]; exact hdl j) (Nat.le_trans (Nat.le_of_eq (hdk i2)) (hdl i2)), (hxB.then' hx25 (by simp) (Nat.le_refl _)), hb26, rcan_set hrB (Only.trans (Only.refl _ _) hx25 (fun _ hb_ => .inl hb_)) hb26 (by omega) ⟨rfl, rfl⟩⟩
  (try dsimp only)
  omega
 refine W_exit ?_
 refine X_then_exit (X_then_exit ?_)
 refine X_block_hit ?_
 refine X_then ?_
 refine W_sub _ (tk2 6 0) ?_
 refine Wr ?_
 refine L_call (E_call (by kernel_rfl) rfl) (law15_alive _ (hK.ext ((hx5.trans uxi).trans hxA)) (hE.ext ((hx5.trans uxi).trans hxA))) rfl rfl rfl ?_
 rintro _ h19 ⟨rfl, hx28⟩
 refine Mv ?_
 refine Mv ?_
 refine L_call (E_call (by kernel_rfl) rfl) (bl_Nodes (hK.ext (((hx5.trans uxi).trans hxA).trans hx28)) (hE.ext (((hx5.trans uxi).trans hxA).trans hx28)) (uBN.ext (hxA.trans hx28)) (by omega)) rfl rfl rfl ?_
 rintro uv7 h20 ⟨uR7, uL7, uq7, ux7⟩
 refine Mv ?_
 refine L_call (E_call (by kernel_rfl) rfl) (ref13_CanonW _ w l (hl.ext ((((hx5.trans uxi).trans hxA).trans hx28).trans ux7)) (by omega) (fun x hx => by have := okA.2.2 x hx; omega)) rfl rfl rfl ?_
 rintro s029 h21 ⟨_, L030, rfl, hr031, hq032, hx33⟩
 refine L_call (E_call (by kernel_rfl) rfl) (ref13_Same _ uv7 uR7 (uL7.ext hx33) s029 L030 hr031 (by have := uq7.1; omega)) rfl rfl rfl ?_
 rintro _ h22 ⟨rfl, hx34⟩
 refine Ly (Y_pick_t rfl rfl) ?_
 refine Av ?_
 refine Nx ?_
 refine W_sub _ (tk1 2) ?_
 refine W_ret ?_
 refine X_ret1 rfl rfl ?_
 have hN := hF.all hC (by rw [cno_len]; omega)
 have me4 := ((((hx5.trans uxi).trans hxA).trans hx28).trans ux7).trans hx33
 exact ⟨congrArg Value.bool (inv_same hN uq7 (by assumption)), (me4.trans hx34)⟩
end Go.Xp
