/- Layer 12 (entry): the law EntryDecodeMatchesReference. -/
import Derived.Test.YtdmhigknppkniaaGreatDoorNew
import Derived.Test.YtdmhigknppkniaaGreatDoorDco
import Derived.Test.YtdmhigknppkniaaGreatDoorDce
import Derived.Test.YtdmhigknppkniaaGreatDoorStm
import Derived.Test.YtdmhigknppkniaaGreatDoorLaidI
set_option linter.unusedSimpArgs false
set_option linter.unusedVariables false
set_option linter.unusedSectionVars false
set_option maxRecDepth 100000
namespace Go.Xp
open Go.Proofs

theorem RdA.hi2 {lo hi : Nat} {h : Heap} {r s : Nat} {D : List UInt8} {f : Int} {p : Nat} {er : Int} (R : RdA lo hi h r s D f p er) : ∀ c ∈ [r, s], c < hi := fun c hc => by
  have h1 := R.rg; have h2 := R.src.rg
  simp only [List.mem_cons, List.not_mem_nil, or_false] at hc
  rcases hc with rfl | rfl <;> omega
theorem entry_DecodeNil (h : Heap) : Cal Tryz.prog 11 #[.pointer none] h (fun v h' => v = .tuple #[.agg #[.int .i64 0, str [], .int .i64 0, str [], .int .i64 0], .int .i64 0, .int .i64 1] ∧ Ext h h') := by
 refine Ce Tryz.func11 fun σ => ?_
 refine Wr ?_
 refine L_mks (M_alloc (u := .agg #[.int .i64 0, str [], .int .i64 0, str [], .int .i64 0]) (by kernel_rfl)) rfl rfl rfl ?_
 rintro _ h1 ⟨rfl, hn1⟩
 have hk2 : Blk h1 h.size [.int .i64 0, str [], .int .i64 0, str [], .int .i64 0] := hn1.blk
 refine A2 ?_
 refine Ln (Xt (Wq (Wq (Wg ?_))))
 refine Mv ?_
 refine Ly (Y_pnil (ad := none) (show _ = some (TypeDesc.pointer (Tryz.prog.pointee 27)) by kernel_rfl) rfl rfl) ?_
 refine Nx ?_
 refine W_true rfl ?_
 refine Wr ?_
 refine Ly (Yb (.agg #[.int .i64 0, str [], .int .i64 0, str [], .int .i64 0]) [] [] []) ?_
 refine Lds [.int .i64 0, str [], .int .i64 0, str [], .int .i64 0] hk2 ?_
 rintro h2 hp3
 have hk4 : Blk h2 h.size [.int .i64 0, str [], .int .i64 0, str [], .int .i64 0] := hp3.blk
 refine A2 ?_
 refine Ln (Xt (Wt (Xr ?_)))
 refine X_retv3 rfl (RVa Tryz.underlying37 hk4) rfl rfl ?_
 exact ⟨rfl, (hn1.ext.then' hp3.only (by simp) (Nat.le_refl _))⟩
theorem entryDecode (h : Heap) (hG : Glb h) (hK : GlbK h) (hN : GlbN h) (hE : GlbE h) (hT : GlbT h) (hS : GlbS h) (v : Value) (D : List UInt8) (hb : Bytes h v D) (vc : Value) (C : List Int) (hc : Rows intS h vc C) (f : Int) (hl : D.length ≤ 140737488355328) (hC : C.length ≤ 140737488355328) (hf : -9223372036854775808 ≤ f ∧ f ≤ 9223372036854775807) : Cal Tryz.prog 3 #[v, .agg #[vc, .int .i64 (f)]] h (fun v h' => v = .bool true ∧ Ext h h') := by
 refine Ce Tryz.func3 fun σ => ?_
 refine Wr ?_
 refine L_mks (M_box rfl) rfl rfl rfl ?_
 rintro _ h1 ⟨rfl, hn1⟩
 have hk2 : Blk h1 h.size [vc, .int .i64 (f)] := hn1.blk
 refine Av ?_
 refine Ln (Xt (Wq ?_))
 refine Wc [(24, .bool (decide ((20000 < (D.length : Int)) ∨ (300 < (C.length : Int))))), (4, .bool false), (3, .pointer (some ⟨h.size, 0, none⟩)), (0, v)] (fun h' => h' = h1) ?_ ?_
 ·refine Wg ?_
  refine Mv ?_
  refine Ly (Y_len Tryz.underlying22 rfl (hb.ext hn1.ext)) ?_
  refine Ly (Y_gtr rfl rfl) ?_
  refine Mv ?_
  refine L_splitd (d := 19) rfl (fun c3 => ?_) (fun c3 => ?_)
  ·refine Sk2 ?_
   refine Sk2 ?_
   refine Ly Ypt ?_
   refine Ln ?_
   exact X_cut () (sk1 24 (lkb rfl (by first | (simp only [eq_true c3, SB]; done) | (simp only [eq_true c3, SB]; rfl))) (sk1 4 rfl (sk1 3 rfl (tk1 0)))) rfl
  refine Lf 0 ?_
  refine Lb Tryz.underlying23 hk2 ?_
  refine Ly (Y_lenr Tryz.underlying23 rfl (hc.ext hn1.ext)) ?_
  refine Ly (Y_gtr rfl rfl) ?_
  refine Ly Ypf ?_
  refine Ln ?_
  exact X_cut () (sk1 24 (lkb rfl (by first | (simp only [eq_false c3, SB]; done) | (simp only [eq_false c3, SB]; rfl))) (sk1 4 rfl (sk1 3 rfl (tk1 0)))) rfl
 rintro h1 rfl
 refine Sd (fun g => ?_) fun g => ?_
 ·refine Wr ?_
  refine Lc (law12_alive _ (hG.ext hn1.ext) (hK.ext hn1.ext) (hN.ext hn1.ext) (hE.ext hn1.ext) (hT.ext hn1.ext)) ?_
  rintro _ h2 ⟨rfl, hx4⟩
  refine Av ?_
  refine Ln (Xt (Wt (Xr ?_)))
  refine Xv1 ?_
  exact ⟨rfl, (hn1.ext.trans hx4)⟩
 refine Ws ?_
 have hl9 : D.length ≤ 20000 := by omega
 have hC9 : C.length ≤ 300 := by omega
 have hla := (hn1.ext).size
 refine Wq ?_
 refine W_held (fun h' => Ext h1 h') 11 rfl (by kernel_rfl) ?_
 refine Ht 0 (fun h_ hI_ => Y_move rfl) (Ext.refl _) ?_
 refine Ht 1 (fun h_ hI_ => Y_ldbox (us := [vc, .int .i64 (f)]) Tryz.underlying25 rfl (show _ = some 2 by kernel_rfl) rfl (hk2.ext hI_) rfl) (Ext.refl _) ?_
 refine Ht 4 (fun h_ hI_ => Y_move rfl) (Ext.refl _) ?_
 refine Ht 5 (fun h_ hI_ => Y_ldbox (us := [vc, .int .i64 (f)]) Tryz.underlying25 rfl (show _ = some 2 by kernel_rfl) rfl (hk2.ext hI_) rfl) (Ext.refl _) ?_
 refine LH_one (i := 2) (by kernel_rfl) ?_
 refine LO_call (i := 2) rfl (E_call (by kernel_rfl) rfl) (source_New _ v D (hb.ext hn1.ext) vc C (hc.ext hn1.ext) f (by omega) (by omega)) rfl rfl rfl ?_
 rintro _ h3 ⟨sA, rfl, uNA, ux1⟩
 refine ⟨ux1, ?_⟩
 refine LH_one (i := 3) (by kernel_rfl) ?_
 refine LO_call (i := 3) rfl (E_call (by kernel_rfl) rfl) (block_NewReader _ _ sA D f uNA) rfl rfl rfl ?_
 rintro _ h4 ⟨rA, rfl, uRA, ux2⟩
 refine ⟨(ux1.trans ux2), ?_⟩
 refine LH_one (i := 6) (by kernel_rfl) ?_
 refine LO_call (i := 6) rfl (E_call (by kernel_rfl) rfl) (ref04_New _ v D (hb.ext ((hn1.ext.trans ux1).trans ux2)) vc C (hc.ext ((hn1.ext.trans ux1).trans ux2)) f (by omega) (by omega)) rfl rfl rfl ?_
 rintro _ h5 ⟨sB, rfl, uNB, ux3⟩
 refine ⟨((ux1.trans ux2).trans ux3), ?_⟩
 refine Ht 7 (fun h_ hI_ => Y_build (v := .agg #[.pointer (some ⟨sB, 0, none⟩), .int .i64 0, .int .i64 0]) (pv := [(0, .pointer (some ⟨sB, 0, none⟩))]) (evp (is := [0]) (os := [.tmp 32]) (vs := [.pointer (some ⟨sB, 0, none⟩)]) rfl rfl) (fun _ => by kernel_rfl)) ((ux1.trans ux2).trans ux3) ?_
 refine Ht 9 (fun h_ hI_ => Y_assign rfl) ((ux1.trans ux2).trans ux3) ?_
 refine LH_one (i := 8) (by kernel_rfl) ?_
 refine LO_mks (i := 8) rfl (M_box rfl) rfl rfl rfl ?_
 rintro _ h6 ⟨rfl, hn5⟩
 refine ⟨(((ux1.trans ux2).trans ux3).trans hn5.ext), ?_⟩
 have hk6 : Blk h6 h5.size [.pointer (some ⟨sB, 0, none⟩), .int .i64 0, .int .i64 0] := hn5.blk
 refine Ht 10 (fun h_ hI_ => Y_assign rfl) (((ux1.trans ux2).trans ux3).trans hn5.ext) ?_
 refine LH_done (by kernel_rfl) ?_
 refine Xt ?_
 refine Wu _ (tk4 6 5 4 0) ?_
 have uRB := mk_RdB uNB hn5.ext hk6 (Nat.le_refl _)
 obtain ⟨la, ha, lb, hb9, q1, q2, uRA2, uRB2⟩ : ∃ la ha lb hb9, h.size ≤ la ∧ ha ≤ lb ∧ RdA la ha h6 rA sA D f 0 0 ∧ RdB lb hb9 h6 h5.size sB D f 0 0 := ⟨_, _, _, _, hla, Nat.le_refl _, (uRA.ext (ux3.trans hn5.ext)), uRB⟩
 have q3 : h.size ≤ lb := by have := uRA2.rg; omega
 have ugA : ∀ c ∈ [rA, sA], h.size ≤ c := fun c hc => nt q1 (uRA2.ge2 c hc)
 have ugB : ∀ c ∈ [h5.size, sB], h.size ≤ c := fun c hc => nt q3 (uRB2.ge2 c hc)
 refine Wq (Wq (Wg ?_))
 refine Mv ?_
 refine Ly (Y_len Tryz.underlying22 rfl (hb.ext ((((hn1.ext.trans ux1).trans ux2).trans ux3).trans hn5.ext))) ?_
 refine Ly (Y_quo rfl rfl (by omega) (by omega) (by omega)) ?_
 refine Lad ?_
 refine Mv ?_
 refine Ln (Xt (Wb ?_))
 refine W_loop (S := Nat × Nat × Int) (fun (i, p, er) => [(38, .int .i64 (((D.length : Int) / 512) + 2)), (6, .pointer (some ⟨h5.size, 0, none⟩)), (5, .pointer (some ⟨rA, 0, none⟩)), (39, .int .i64 ((i : Int)))]) (fun (i, p, er) h' => i ≤ D.length / 512 + 2 ∧ Ext h h' ∧ RdA la ha h' rA sA D f p er ∧ RdB lb hb9 h' (h5.size) sB D f p er ∧ Blk h' (h5.size) [.pointer (some ⟨sB, 0, none⟩), .int .i64 (p : Int), .int .i64 er]) (fun (i, p, er) => D.length / 512 + 2 - i) (0, 0, 0) (tk4 38 6 5 39) ?_ ?_
 ·exact ⟨Nat.zero_le _, ((((hn1.ext.trans ux1).trans ux2).trans ux3).trans hn5.ext), uRA2, uRB2, hk6⟩
 rintro ⟨i, p, er⟩ h7 ⟨hi, hxL, uRA3, uRB3, ubk⟩
 show W _ _ _ _ _ [(38, .int .i64 (((D.length : Int) / 512) + 2)), (6, .pointer (some ⟨h5.size, 0, none⟩)), (5, .pointer (some ⟨rA, 0, none⟩)), (39, .int .i64 ((i : Int)))] _
 refine Wr ?_
 refine Ly Yls ?_
 refine Ln (Xt (Wq ?_))
 refine Sd (fun c => ?_) fun c => ?_
 ·refine Wk (Xt (Wq (Wb (Wq (Wg ?_)))))
  refine Mv ?_
  refine Lc (entry_Decode _ la ha rA sA D f p er uRA3 (by omega) hf h hxL q1 hG hK hN hE hT hS) ?_
  rintro _ h8 ⟨rfl, uy, uRA4⟩
  have uRB4 := RdB.out uRB3 uy (fun b hb => .inl (ntl (uRA3.hi2 b hb) q2))
  have ubk4 := uRB4.blk
  refine Mx ?_
  refine Lx ?_
  refine L_mks (M_alloc (u := .agg #[.int .i64 0, str [], .int .i64 0, str [], .int .i64 0]) (by kernel_rfl)) rfl rfl rfl ?_
  rintro _ h9 ⟨rfl, hn7⟩
  have hk8 : Blk h9 h8.size [.int .i64 0, str [], .int .i64 0, str [], .int .i64 0] := hn7.blk
  refine Lds [.int .i64 ((dcd D f p er).k), str ((dcd D f p er).p), .int .i64 ((dcd D f p er).m), str ((dcd D f p er).tg), .int .i64 ((dcd D f p er).z)] hk8 ?_
  rintro h10 hp9
  have hk10 : Blk h10 h8.size [.int .i64 ((dcd D f p er).k), str ((dcd D f p er).p), .int .i64 ((dcd D f p er).m), str ((dcd D f p er).tg), .int .i64 ((dcd D f p er).z)] := hp9.blk
  refine A2 ?_
  refine Nx ?_
  refine Wu _ (tk7 9 8 7 38 6 5 39) ?_
  refine Wm ?_
  refine Lc (ref12_Decode _ lb hb9 _ sB D f p er (uRB4.ext (hn7.ext.then' hp9.only (by simp) (Nat.le_refl _))) (ubk4.ext (hn7.ext.then' hp9.only (by simp) (Nat.le_refl _))) (by omega) hf) ?_
  rintro _ h11 ⟨rfl, uy2, uRB5⟩
  have uRA5 := RdA.out (uRA4.ext (hn7.ext.then' hp9.only (by simp) (Nat.le_refl _))) uy2 (fun b hb => .inr (nt q2 (uRB5.ge2 b hb)))
  have ubk5 := uRB5.blk
  refine Mx ?_
  refine Lx ?_
  refine L_mks (M_alloc (u := .agg #[.int .i64 0, str [], .int .i64 0, str [], .int .i64 0]) (by kernel_rfl)) rfl rfl rfl ?_
  rintro _ h12 ⟨rfl, hn11⟩
  have hk12 : Blk h12 h11.size [.int .i64 0, str [], .int .i64 0, str [], .int .i64 0] := hn11.blk
  refine Lds [.int .i64 ((dcd D f p er).k), str ((dcd D f p er).p), .int .i64 ((dcd D f p er).m), str ((dcd D f p er).tg), .int .i64 ((dcd D f p er).z)] hk12 ?_
  rintro h13 hp13
  have hk14 : Blk h13 h11.size [.int .i64 ((dcd D f p er).k), str ((dcd D f p er).p), .int .i64 ((dcd D f p er).m), str ((dcd D f p er).tg), .int .i64 ((dcd D f p er).z)] := hp13.blk
  refine A2 ?_
  refine Nx ?_
  refine Wu _ (sk2 12 11 rfl rfl (tk8 10 9 8 7 38 6 5 39)) ?_
  refine Wq ?_
  refine W_pers [(12, .int .i64 ((dcd D f p er).e)), (11, .int .i64 ((dcd D f p er).n)), (10, .pointer (some ⟨h11.size, 0, none⟩)), (9, .int .i64 ((dcd D f p er).e)), (8, .int .i64 ((dcd D f p er).n)), (7, .pointer (some ⟨h8.size, 0, none⟩)), (38, .int .i64 (((D.length : Int) / 512) + 2)), (6, .pointer (some ⟨h5.size, 0, none⟩)), (5, .pointer (some ⟨rA, 0, none⟩)), (39, .int .i64 ((i : Int)))] (sk2 12 11 rfl rfl (tk8 10 9 8 7 38 6 5 39)) (by kernel_rfl) ?_
  refine LPc 0 (.agg #[.int .i64 ((dcd D f p er).k), str ((dcd D f p er).p), .int .i64 ((dcd D f p er).m), str ((dcd D f p er).tg), .int .i64 ((dcd D f p er).z)]) [] ?_ ?_
  ·intro h14 hx15
   refine Nn ?_
   have hc16 := ((((hk10.only uy2 (fun hb_ => Nat.lt_irrefl _ (ntl (uRB4.lt2 _ hb_) (Nat.le_refl _)))).ext hn11.ext).only hp13.only (ni_lt (ntl hk8.lt (nt hp9.only.size uy2.size)))).ext hx15)
   refine Stp_yld (Y_ldbox (us := [.int .i64 ((dcd D f p er).k), str ((dcd D f p er).p), .int .i64 ((dcd D f p er).m), str ((dcd D f p er).tg), .int .i64 ((dcd D f p er).z)]) Tryz.underlying37 rfl (show _ = some 5 by kernel_rfl) rfl hc16 rfl) rfl ?_
   exact rfl
  refine LPc 1 (.agg #[.int .i64 ((dcd D f p er).k), str ((dcd D f p er).p), .int .i64 ((dcd D f p er).m), str ((dcd D f p er).tg), .int .i64 ((dcd D f p er).z)]) [] ?_ ?_
  ·intro h15 hx17
   exact Sy (Y_ldbox (us := [.int .i64 ((dcd D f p er).k), str ((dcd D f p er).p), .int .i64 ((dcd D f p er).m), str ((dcd D f p er).tg), .int .i64 ((dcd D f p er).z)]) Tryz.underlying37 rfl (show _ = some 5 by kernel_rfl) rfl (hk14.ext hx17) rfl)
  refine LPc 2 (.bool (decide (¬ (((dcd D f p er).k) = ((dcd D f p er).k) ∧ ((dcd D f p er).p) = ((dcd D f p er).p) ∧ ((dcd D f p er).m) = ((dcd D f p er).m) ∧ ((dcd D f p er).tg) = ((dcd D f p er).tg) ∧ ((dcd D f p er).z) = ((dcd D f p er).z))))) [(0, 53), (1, 54)] ?_ ?_
  ·intro h16 hx18
   rintro _ rfl
   rintro _ rfl
   exact Sy (Y_decneg (Y_stneq (xs := [.int .i64 ((dcd D f p er).k), str ((dcd D f p er).p), .int .i64 ((dcd D f p er).m), str ((dcd D f p er).tg), .int .i64 ((dcd D f p er).z)]) (ys := [.int .i64 ((dcd D f p er).k), str ((dcd D f p er).p), .int .i64 ((dcd D f p er).m), str ((dcd D f p er).tg), .int .i64 ((dcd D f p er).z)]) (r := decide (((dcd D f p er).k) = ((dcd D f p er).k) ∧ ((dcd D f p er).p) = ((dcd D f p er).p) ∧ ((dcd D f p er).m) = ((dcd D f p er).m) ∧ ((dcd D f p er).tg) = ((dcd D f p er).tg) ∧ ((dcd D f p er).z) = ((dcd D f p er).z))) (by kernel_rfl) (by kernel_rfl) (by kernel_rfl) rfl rfl (steq (ks := [.i .i64, .s, .i .i64, .s, .i .i64]) (by kernel_rfl) (by simp [eqks, eqk]))))
  refine LPc 3 (.bool false) [(2, 55)] ?_ ?_
  ·intro h17 hx19
   rintro _ rfl
   refine Nn ?_
   refine Stp_yld (Y_move rfl) rfl ?_
   exact (congrArg Value.bool (decide_eq_false (by simp))).symm
  refine LPc 4 (.int .i64 ((dcd D f p er).n)) [(3, 56)] ?_ ?_
  ·intro h18 hx20
   rintro _ rfl
   exact Sm
  refine LPc 5 (.int .i64 ((dcd D f p er).n)) [(3, 56)] ?_ ?_
  ·intro h19 hx21
   rintro _ rfl
   exact Sm
  refine LPc 6 (.bool (decide (¬ ((dcd D f p er).n) = ((dcd D f p er).n)))) [(3, 56), (4, 57), (5, 58)] ?_ ?_
  ·intro h20 hx22
   rintro _ rfl
   rintro _ rfl
   rintro _ rfl
   exact Sy (Y_neq rfl rfl)
  refine LPc 7 (.bool (decide (¬ ((dcd D f p er).n) = ((dcd D f p er).n)))) [(3, 56), (6, 59)] ?_ ?_
  ·intro h21 hx23
   rintro _ rfl
   rintro _ rfl
   exact Sy (Y_pick_f rfl rfl)
  refine LPc 8 (.bool false) [(7, 60)] ?_ ?_
  ·intro h22 hx24
   rintro _ rfl
   refine Nn ?_
   refine Stp_yld (Y_move rfl) rfl ?_
   exact (congrArg Value.bool (decide_eq_false (by simp))).symm
  refine LPc 9 (.int .i64 ((dcd D f p er).e)) [(8, 61)] ?_ ?_
  ·intro h23 hx25
   rintro _ rfl
   exact Sm
  refine LPc 10 (.int .i64 ((dcd D f p er).e)) [(8, 61)] ?_ ?_
  ·intro h24 hx26
   rintro _ rfl
   exact Sm
  refine LPc 11 (.bool (decide (¬ ((dcd D f p er).e) = ((dcd D f p er).e)))) [(8, 61), (9, 62), (10, 63)] ?_ ?_
  ·intro h25 hx27
   rintro _ rfl
   rintro _ rfl
   rintro _ rfl
   exact Sy (Y_neq rfl rfl)
  refine LPc 12 (.bool (decide (¬ ((dcd D f p er).e) = ((dcd D f p er).e)))) [(11, 64), (8, 61)] ?_ ?_
  ·intro h26 hx28
   rintro _ rfl
   rintro _ rfl
   exact Sy (Y_pick_f rfl rfl)
  refine LPc 13 (.bool false) [(12, 65)] ?_ ?_
  ·intro h27 hx29
   rintro _ rfl
   refine Nn ?_
   refine Stp_yld (Y_move rfl) rfl ?_
   exact (congrArg Value.bool (decide_eq_false (by simp))).symm
  refine LPc 14 (.pointer (some ⟨rA, 0, none⟩)) [(13, 66)] ?_ ?_
  ·intro h28 hx30
   rintro _ rfl
   exact Sm
  refine LPc 15 (.int .i64 (((dcd D f p er).pos : Int))) [(13, 66), (14, 67)] ?_ ?_
  ·intro h29 hx31
   rintro _ rfl
   rintro _ rfl
   refine Nn ?_
   refine Stp_call (E_call (by kernel_rfl) rfl) (rd_Off (uRA5.ext ((hn11.ext.then' hp13.only (by simp) (Nat.le_refl _)).trans hx31))) rfl ?_
   rintro _ h30 ⟨rfl, ux9⟩
   exact ⟨ux9, rfl⟩
  refine LPc 16 (.pointer (some ⟨h5.size, 0, none⟩)) [(13, 66)] ?_ ?_
  ·intro h31 hx32
   rintro _ rfl
   exact Sm
  refine LPc 17 (.pointer (some ⟨h5.size, 0, none⟩)) [(13, 66), (16, 69)] ?_ ?_
  ·intro h32 hx33
   rintro _ rfl
   rintro _ rfl
   exact Sy (Y_nilCheck rfl)
  refine LPc 18 (.pointer (some ⟨h5.size, 0 + 1, none⟩)) [(13, 66), (17, 70)] ?_ ?_
  ·intro h33 hx34
   rintro _ rfl
   rintro _ rfl
   exact Sf 1
  refine LPc 19 (.int .i64 (((dcd D f p er).pos : Int))) [(13, 66), (18, 71)] ?_ ?_
  ·intro h34 hx35
   rintro _ rfl
   rintro _ rfl
   exact Sb Tryz.underlying2 (ubk5.ext ((hn11.ext.then' hp13.only (by simp) (Nat.le_refl _)).trans hx35))
  refine LPc 20 (.bool (decide (¬ ((dcd D f p er).pos : Int) = ((dcd D f p er).pos : Int)))) [(19, 72), (13, 66), (15, 68)] ?_ ?_
  ·intro h35 hx36
   rintro _ rfl
   rintro _ rfl
   rintro _ rfl
   exact Sy (Y_neq rfl rfl)
  refine LPc 21 (.bool (decide (¬ ((dcd D f p er).pos : Int) = ((dcd D f p er).pos : Int)))) [(20, 73), (13, 66)] ?_ ?_
  ·intro h36 hx37
   rintro _ rfl
   rintro _ rfl
   exact Sy (Y_pick_f rfl rfl)
  refine LP_end [(21, 74)] rfl (by kernel_rfl) rfl ?_
  intro h37 hx38
  rintro _ rfl
  refine Nn ?_
  refine Xt ?_
  refine Wu _ (tk5 74 38 6 5 39) ?_
  refine W_known false rfl (by exact decide_eq_false (by simp)) ?_
  refine Wk (Xb (Xt (Wg ?_)))
  refine Lad ?_
  refine Mv ?_
  refine Ln ?_
  refine X_loop ((i + 1, (dcd D f p er).pos, (dcd D f p er).er)) (tk4 38 6 5 39) ?_ ?_
  ·exact ⟨by omega, (((((((hxL.then' uy ugA (Nat.le_refl _)).trans hn7.ext).then' hp9.only (by simp) (nt hxL.size uy.size)).then' uy2 ugB (Nat.le_refl _)).trans hn11.ext).then' hp13.only (by simp) (nt (nt (nt (nt hxL.size uy.size) hn7.ext.size) hp9.only.size) uy2.size)).trans hx38), (uRA5.ext ((hn11.ext.then' hp13.only (by simp) (Nat.le_refl _)).trans hx38)), (uRB5.ext ((hn11.ext.then' hp13.only (by simp) (Nat.le_refl _)).trans hx38)), (ubk5.ext ((hn11.ext.then' hp13.only (by simp) (Nat.le_refl _)).trans hx38))⟩
  (try dsimp only)
  omega
 refine W_exit ?_
 refine Xe (Xe ?_)
 refine X_block_hit ?_
 refine Xt (Wq (Wg ?_))
 refine Lc (entry_DecodeNil _) ?_
 rintro _ h38 ⟨rfl, ux10⟩
 refine Mx ?_
 refine Lx ?_
 refine L_mks (M_alloc (u := .agg #[.int .i64 0, str [], .int .i64 0, str [], .int .i64 0]) (by kernel_rfl)) rfl rfl rfl ?_
 rintro _ h39 ⟨rfl, hn39⟩
 have hk40 : Blk h39 h38.size [.int .i64 0, str [], .int .i64 0, str [], .int .i64 0] := hn39.blk
 refine Lds [.int .i64 0, str [], .int .i64 0, str [], .int .i64 0] hk40 ?_
 rintro h40 hp41
 have hk42 : Blk h40 h38.size [.int .i64 0, str [], .int .i64 0, str [], .int .i64 0] := hp41.blk
 refine A2 ?_
 refine Nx ?_
 refine Wu _ (tk2 15 14) ?_
 refine Wr ?_
 have me1 := ((hxL.trans ux10).trans hn39.ext).then' hp41.only (by simp) (nt hxL.size ux10.size)
 refine Lc (law12_alive _ (hG.ext me1) (hK.ext me1) (hN.ext me1) (hE.ext me1) (hT.ext me1)) ?_
 rintro _ h41 ⟨rfl, hx43⟩
 refine M2 ?_
 refine Ly Yeq ?_
 refine Ly Ypt ?_
 refine Mv ?_
 refine L_known (d := 86) true rfl (by first | rfl | decide | simp) ?_
 refine Mv ?_
 refine Ly Yeq ?_
 refine Ly Ypt ?_
 refine An ?_
 refine Wu _ (tk1 4) ?_
 refine Wt ?_
 refine Xv1 ?_
 exact ⟨rfl, (me1.trans hx43)⟩
end Go.Xp
