/- Layer 13 (tree): Check and Find match the reference. -/
import Derived.Test.YtolfadbbhocikaaDoorTreeV
set_option linter.unusedSimpArgs false
set_option linter.unusedVariables false
set_option linter.unusedSectionVars false
namespace Go.Xp
open Go.Proofs

theorem lsame_one {x y : Nod} (h : nsame x y) : lsame [x] [y] = true := lsame_iff.2 ⟨rfl, fun k hk => by
  have : k = 0 := by simp at hk; omega
  subst this; exact h⟩
theorem nsame_refl (x : Nod) : nsame x x := ⟨⟨⟨⟨⟨rfl, rfl⟩, rfl⟩, rfl⟩, rfl⟩, rfl⟩
set_option maxRecDepth 100000 in
theorem treeCheckMatchesReference (h : Heap) (hK : GlbK h) (hE : GlbE h) (w : Value) (l : List Nod) (hl : Rows nodS h w l) (q : List UInt8) (hn : l.length ≤ 140737488355328) (hs : ∀ x ∈ l, x.path.length ≤ 140737488355328 ∧ x.target.length ≤ 140737488355328 ∧ x.data.length ≤ 140737488355328) (hq : q.length ≤ 140737488355328) : Cal Tryd.prog 5 #[w, str q] h (fun v h' => v = .bool true ∧ Ext h h') := by
  refine Cal_enter (args := [w, str q]) Tryd.func5 rfl rfl rfl (fun σ => ?_)
  refine W_seq ?_
  refine W_region ?_
  refine L_yld (Y_assign rfl) rfl rfl rfl ?_
  refine L_nil ?_
  refine X_then ?_
  refine W_seq ?_
  refine W_seq ?_
  refine W_region ?_
  refine L_yld (Y_move rfl) rfl rfl rfl ?_
  refine L_call (E_call (by kernel_rfl) rfl) (law13_TooLarge _ w l hl hn hs) rfl rfl rfl ?_
  rintro _ h1 ⟨rfl, hx1⟩
  refine L_yld (Y_gtr rfl rfl) rfl rfl rfl ?_
  refine L_nil ?_
  refine X_then ?_
  refine W_sub _ (.cons (i := 17) rfl (.cons (i := 4) rfl (.cons (i := 0) rfl (.cons (i := 1) rfl (.nil _))))) ?_
  refine W_splitd rfl (fun g => ?_) (fun g => ?_)
  · refine W_seq ?_
    refine W_region ?_
    refine L_call (E_call (by kernel_rfl) rfl) (law13_alive _ (hK.ext hx1) (hE.ext hx1)) rfl rfl rfl ?_
    rintro _ h2 ⟨rfl, hx2⟩
    refine L_yld (Y_assign rfl) rfl rfl rfl ?_
    refine L_nil ?_
    refine X_then ?_
    refine W_sub _ (.cons (i := 4) rfl (.cons (i := 0) rfl (.cons (i := 1) rfl (.nil _)))) ?_
    refine W_ret ?_
    refine X_then_ret ?_
    refine X_ret1 rfl rfl ?_
    exact ⟨rfl, (hx1.trans hx2)⟩
  · refine W_skip ?_
    refine X_then ?_
    refine W_sub _ (.cons (i := 4) rfl (.cons (i := 0) rfl (.cons (i := 1) rfl (.nil _)))) ?_
    refine W_seq ?_
    refine W_region ?_
    refine L_yld (Y_move rfl) rfl rfl rfl ?_
    refine L_call (E_call (by kernel_rfl) rfl) (tree_Check _ (hK.ext hx1) (hE.ext hx1) w l (hl.ext hx1) hn hs) rfl rfl rfl ?_
    rintro _ h3 ⟨rfl, hx3⟩
    refine L_yld (Y_move rfl) rfl rfl rfl ?_
    refine L_yld (Y_extract (v := .int .i64 (tpos l)) rfl rfl) rfl rfl rfl ?_
    refine L_yld (Y_extract (v := .int .i64 (terr l)) rfl rfl) rfl rfl rfl ?_
    refine L_yld (Y_assign rfl) rfl rfl rfl ?_
    refine L_yld (Y_assign rfl) rfl rfl rfl ?_
    refine L_nil ?_
    refine X_then ?_
    refine W_sub _ (.cons (i := 6) rfl (.cons (i := 5) rfl (.cons (i := 4) rfl (.cons (i := 0) rfl (.cons (i := 1) rfl (.nil _)))))) ?_
    refine W_seq ?_
    refine W_region ?_
    refine L_yld (Y_move rfl) rfl rfl rfl ?_
    refine L_call (E_call (by kernel_rfl) rfl) (ref13_Check _ w l (hl.ext (hx1.trans hx3)) hn hs) rfl rfl rfl ?_
    rintro _ h4 ⟨rfl, hx4⟩
    refine L_yld (Y_move rfl) rfl rfl rfl ?_
    refine L_yld (Y_extract (v := .int .i64 (tpos l)) rfl rfl) rfl rfl rfl ?_
    refine L_yld (Y_extract (v := .int .i64 (terr l)) rfl rfl) rfl rfl rfl ?_
    refine L_yld (Y_assign rfl) rfl rfl rfl ?_
    refine L_yld (Y_assign rfl) rfl rfl rfl ?_
    refine L_nil ?_
    refine X_then ?_
    refine W_sub _ (.cons (i := 8) rfl (.cons (i := 7) rfl (.cons (i := 6) rfl (.cons (i := 5) rfl (.cons (i := 4) rfl (.cons (i := 0) rfl (.cons (i := 1) rfl (.nil _)))))))) ?_
    refine W_seq ?_
    refine W_region ?_
    refine L_yld (Y_move rfl) rfl rfl rfl ?_
    refine L_yld (Y_move rfl) rfl rfl rfl ?_
    refine L_call (E_call (by kernel_rfl) rfl) (tree_Find _ w l (hl.ext ((hx1.trans hx3).trans hx4)) q (by first | omega | rfl | (simp <;> omega))) rfl rfl rfl ?_
    rintro _ h5 ⟨rfl, hr05, hx6⟩
    refine L_yld (Y_move rfl) rfl rfl rfl ?_
    refine L_yld (Y_extract (v := .agg #[.int .i64 ((fnode l q).kind), str ((fnode l q).path), .int .i64 ((fnode l q).mode), str ((fnode l q).target), ((fnode l q).dv), .int .i64 ((fnode l q).cls)]) rfl rfl) rfl rfl rfl ?_
    refine L_yld (Y_extract (v := .bool (decide (pfirst l q < l.length))) rfl rfl) rfl rfl rfl ?_
    refine L_mks (M_alloc (u := .agg #[.int .i64 0, str [], .int .i64 0, str [], .slice none 0 0, .int .i64 0]) (by kernel_rfl)) rfl rfl rfl ?_
    rintro _ h6 ⟨rfl, hn7⟩
    have hk8 : Blk h6 h5.size [.int .i64 0, str [], .int .i64 0, str [], .slice none 0 0, .int .i64 0] := hn7.blk
    refine L_dos (D_store (us := [.int .i64 ((fnode l q).kind), str ((fnode l q).path), .int .i64 ((fnode l q).mode), str ((fnode l q).target), ((fnode l q).dv), .int .i64 ((fnode l q).cls)]) (show _ = some 6 by kernel_rfl) rfl rfl rfl (by intro u_ hu_; simp only [List.mem_cons, List.not_mem_nil, or_false] at hu_; rcases hu_ with rfl | rfl | rfl | rfl | rfl | rfl <;> first | rfl | exact ((hr05.ext hn7.ext)).cell1) hk8 (by simp)) rfl rfl ?_
    rintro h7 hp9
    have hk10 : Blk h7 h5.size [.int .i64 ((fnode l q).kind), str ((fnode l q).path), .int .i64 ((fnode l q).mode), str ((fnode l q).target), ((fnode l q).dv), .int .i64 ((fnode l q).cls)] := hp9.blk
    refine L_yld (Y_assign rfl) rfl rfl rfl ?_
    refine L_nil ?_
    refine X_then ?_
    refine W_sub _ (.cons (i := 10) rfl (.cons (i := 9) rfl (.cons (i := 8) rfl (.cons (i := 7) rfl (.cons (i := 6) rfl (.cons (i := 5) rfl (.cons (i := 4) rfl (.cons (i := 0) rfl (.cons (i := 1) rfl (.nil _)))))))))) ?_
    refine W_seq ?_
    refine W_region ?_
    refine L_yld (Y_build (v := .agg #[.int .i64 0, str [], .int .i64 0, str [], .slice none 0 0, .int .i64 0]) (pv := []) (evp (is := []) (os := []) (vs := []) rfl rfl) (fun _ => by kernel_rfl)) rfl rfl rfl ?_
    refine L_mks (M_alloc (u := .agg #[.int .i64 0, str [], .int .i64 0, str [], .slice none 0 0, .int .i64 0]) (by kernel_rfl)) rfl rfl rfl ?_
    rintro _ h8 ⟨rfl, hn11⟩
    have hk12 : Blk h8 h7.size [.int .i64 0, str [], .int .i64 0, str [], .slice none 0 0, .int .i64 0] := hn11.blk
    refine L_dos (D_store (us := [.int .i64 0, str [], .int .i64 0, str [], .slice none 0 0, .int .i64 0]) (show _ = some 6 by kernel_rfl) rfl rfl rfl (by simp [Value.oneCell']) hk12 (by simp)) rfl rfl ?_
    rintro h9 hp13
    have hk14 : Blk h9 h7.size [.int .i64 0, str [], .int .i64 0, str [], .slice none 0 0, .int .i64 0] := hp13.blk
    refine L_yld (Y_assign rfl) rfl rfl rfl ?_
    refine L_nil ?_
    refine X_then ?_
    refine W_sub _ (.cons (i := 12) rfl (.cons (i := 11) rfl (.cons (i := 10) rfl (.cons (i := 9) rfl (.cons (i := 8) rfl (.cons (i := 7) rfl (.cons (i := 6) rfl (.cons (i := 5) rfl (.cons (i := 4) rfl (.cons (i := 0) rfl (.cons (i := 1) rfl (.nil _)))))))))))) ?_
    refine W_seq ?_
    refine W_seq ?_
    refine W_region ?_
    refine L_yld (Y_move rfl) rfl rfl rfl ?_
    refine L_yld (Y_lenr Tryd.underlying22 rfl (hl.ext (((((((hx1.trans hx3).trans hx4).trans hx6).trans hn7.ext).then' hp9.only (by simp) (Nat.le_trans (Nat.le_trans (Nat.le_trans hx1.size hx3.size) hx4.size) hx6.size)).trans hn11.ext).then' hp13.only (by simp) (Nat.le_trans (Nat.le_trans (Nat.le_trans (Nat.le_trans (Nat.le_trans hx1.size hx3.size) hx4.size) hx6.size) hn7.ext.size) hp9.only.size)))) rfl rfl rfl ?_
    refine L_yld (Y_move rfl) rfl rfl rfl ?_
    refine L_nil ?_
    refine X_then ?_
    refine W_sub _ (.cons (i := 38) rfl (.cons (i := 37) rfl (.cons (i := 36) rfl (.cons (i := 12) rfl (.cons (i := 11) rfl (.cons (i := 10) rfl (.cons (i := 9) rfl (.cons (i := 8) rfl (.cons (i := 7) rfl (.cons (i := 6) rfl (.cons (i := 5) rfl (.cons (i := 4) rfl (.cons (i := 1) rfl (.nil _)))))))))))))) ?_
    refine W_block ?_
    refine W_loop (S := Nat) (fun i => [(37, .int .i64 ((l.length : Int))), (36, w), (11, .pointer (some ⟨h7.size, 0, none⟩)), (10, .bool (decide (pfirst l q < l.length))), (9, .pointer (some ⟨h5.size, 0, none⟩)), (8, .int .i64 (terr l)), (7, .int .i64 (tpos l)), (6, .int .i64 (terr l)), (5, .int .i64 (tpos l)), (4, .bool false), (1, str q), (12, .bool false), (38, .int .i64 ((i : Int)))]) (fun i h' => (i ≤ l.length ∧ ∀ k, k < i → ¬ (at_nod l k).path = q) ∧ Ext h9 h') (fun i => l.length - i) 0 (.cons (i := 37) rfl (.cons (i := 36) rfl (.cons (i := 11) rfl (.cons (i := 10) rfl (.cons (i := 9) rfl (.cons (i := 8) rfl (.cons (i := 7) rfl (.cons (i := 6) rfl (.cons (i := 5) rfl (.cons (i := 4) rfl (.cons (i := 1) rfl (.cons (i := 12) rfl (.cons (i := 38) rfl (.nil _)))))))))))))) ?_ ?_
    · exact ⟨⟨by omega, fun k hk => absurd hk (Nat.not_lt_zero _)⟩, Ext.refl _⟩
    rintro i h10 ⟨⟨hi, h0⟩, hxa⟩
    show W _ _ _ _ _ [(37, .int .i64 ((l.length : Int))), (36, w), (11, .pointer (some ⟨h7.size, 0, none⟩)), (10, .bool (decide (pfirst l q < l.length))), (9, .pointer (some ⟨h5.size, 0, none⟩)), (8, .int .i64 (terr l)), (7, .int .i64 (tpos l)), (6, .int .i64 (terr l)), (5, .int .i64 (tpos l)), (4, .bool false), (1, str q), (12, .bool false), (38, .int .i64 ((i : Int)))] _
    refine W_seq ?_
    refine W_region ?_
    refine L_yld (Y_lss rfl rfl) rfl rfl rfl ?_
    refine L_nil ?_
    refine X_then ?_
    refine W_seq ?_
    refine W_splitd rfl (fun hlt => ?_) (fun hlt => ?_)
    · refine W_skip ?_
      refine X_then ?_
      refine W_sub _ (.cons (i := 37) rfl (.cons (i := 36) rfl (.cons (i := 11) rfl (.cons (i := 10) rfl (.cons (i := 9) rfl (.cons (i := 8) rfl (.cons (i := 7) rfl (.cons (i := 6) rfl (.cons (i := 5) rfl (.cons (i := 4) rfl (.cons (i := 1) rfl (.cons (i := 12) rfl (.cons (i := 38) rfl (.nil _)))))))))))))) ?_
      refine W_seq ?_
      refine W_block ?_
      refine W_seq ?_
      refine W_region ?_
      refine L_yld (Y_idxr Tryd.underlying22 (show _ = some 6 by kernel_rfl) rfl rfl rfl (hl.ext ((((((((hx1.trans hx3).trans hx4).trans hx6).trans hn7.ext).then' hp9.only (by simp) (Nat.le_trans (Nat.le_trans (Nat.le_trans hx1.size hx3.size) hx4.size) hx6.size)).trans hn11.ext).then' hp13.only (by simp) (Nat.le_trans (Nat.le_trans (Nat.le_trans (Nat.le_trans (Nat.le_trans hx1.size hx3.size) hx4.size) hx6.size) hn7.ext.size) hp9.only.size)).trans hxa)) (by omega) (by omega)) rfl rfl rfl ?_
      refine L_yld (Y_ldrA0 (k := ((i : Int)).toNat) (us := [.int .i64 ((at_nod l ((i : Int)).toNat).kind), str ((at_nod l ((i : Int)).toNat).path), .int .i64 ((at_nod l ((i : Int)).toNat).mode), str ((at_nod l ((i : Int)).toNat).target), ((at_nod l ((i : Int)).toNat).dv), .int .i64 ((at_nod l ((i : Int)).toNat).cls)]) Tryd.underlying30 rfl (show _ = some 6 by kernel_rfl) rfl rfl (hl.ext ((((((((hx1.trans hx3).trans hx4).trans hx6).trans hn7.ext).then' hp9.only (by simp) (Nat.le_trans (Nat.le_trans (Nat.le_trans hx1.size hx3.size) hx4.size) hx6.size)).trans hn11.ext).then' hp13.only (by simp) (Nat.le_trans (Nat.le_trans (Nat.le_trans (Nat.le_trans (Nat.le_trans hx1.size hx3.size) hx4.size) hx6.size) hn7.ext.size) hp9.only.size)).trans hxa)) (by omega) rfl) rfl rfl rfl ?_
      refine L_mks (M_alloc (u := .agg #[.int .i64 0, str [], .int .i64 0, str [], .slice none 0 0, .int .i64 0]) (by kernel_rfl)) rfl rfl rfl ?_
      rintro _ h11 ⟨rfl, hn15⟩
      have hk16 : Blk h11 h10.size [.int .i64 0, str [], .int .i64 0, str [], .slice none 0 0, .int .i64 0] := hn15.blk
      refine L_dos (D_store (us := [.int .i64 ((at_nod l ((i : Int)).toNat).kind), str ((at_nod l ((i : Int)).toNat).path), .int .i64 ((at_nod l ((i : Int)).toNat).mode), str ((at_nod l ((i : Int)).toNat).target), ((at_nod l ((i : Int)).toNat).dv), .int .i64 ((at_nod l ((i : Int)).toNat).cls)]) (show _ = some 6 by kernel_rfl) rfl rfl rfl (by intro u_ hu_; simp only [List.mem_cons, List.not_mem_nil, or_false] at hu_; rcases hu_ with rfl | rfl | rfl | rfl | rfl | rfl <;> first | rfl | exact ((show Bytes _ ((at_nod l ((i : Int)).toNat).dv) ((at_nod l ((i : Int)).toNat).data) from (hl.ext (((((((((hx1.trans hx3).trans hx4).trans hx6).trans hn7.ext).then' hp9.only (by simp) (Nat.le_trans (Nat.le_trans (Nat.le_trans hx1.size hx3.size) hx4.size) hx6.size)).trans hn11.ext).then' hp13.only (by simp) (Nat.le_trans (Nat.le_trans (Nat.le_trans (Nat.le_trans (Nat.le_trans hx1.size hx3.size) hx4.size) hx6.size) hn7.ext.size) hp9.only.size)).trans hxa).trans hn15.ext)).okat (k := ((i : Int)).toNat) (by omega))).cell1) hk16 (by simp)) rfl rfl ?_
      rintro h12 hp17
      have hk18 : Blk h12 h10.size [.int .i64 ((at_nod l ((i : Int)).toNat).kind), str ((at_nod l ((i : Int)).toNat).path), .int .i64 ((at_nod l ((i : Int)).toNat).mode), str ((at_nod l ((i : Int)).toNat).target), ((at_nod l ((i : Int)).toNat).dv), .int .i64 ((at_nod l ((i : Int)).toNat).cls)] := hp17.blk
      refine L_nil ?_
      refine X_then ?_
      refine W_sub _ (.cons (i := 14) rfl (.cons (i := 37) rfl (.cons (i := 36) rfl (.cons (i := 11) rfl (.cons (i := 10) rfl (.cons (i := 9) rfl (.cons (i := 8) rfl (.cons (i := 7) rfl (.cons (i := 6) rfl (.cons (i := 5) rfl (.cons (i := 4) rfl (.cons (i := 1) rfl (.cons (i := 12) rfl (.cons (i := 38) rfl (.nil _))))))))))))))) ?_
      refine W_seq ?_
      refine W_region ?_
      refine L_yld (Y_fieldAddr (off := 1) (by kernel_rfl) rfl rfl) rfl rfl rfl ?_
      refine L_yld (Y_ldblk Tryd.underlying9 rfl rfl hk18 rfl) rfl rfl rfl ?_
      refine L_yld (Y_move rfl) rfl rfl rfl ?_
      refine L_yld (Y_seql rfl rfl) rfl rfl rfl ?_
      refine L_nil ?_
      refine X_then ?_
      refine W_sub _ (.cons (i := 45) rfl (.cons (i := 14) rfl (.cons (i := 37) rfl (.cons (i := 36) rfl (.cons (i := 11) rfl (.cons (i := 10) rfl (.cons (i := 9) rfl (.cons (i := 8) rfl (.cons (i := 7) rfl (.cons (i := 6) rfl (.cons (i := 5) rfl (.cons (i := 4) rfl (.cons (i := 1) rfl (.cons (i := 12) rfl (.cons (i := 38) rfl (.nil _)))))))))))))))) ?_
      refine W_splitd rfl (fun y => ?_) (fun y => ?_)
      · refine W_seq ?_
        refine W_region ?_
        refine L_yld (Y_ldbox (us := [.int .i64 ((at_nod l ((i : Int)).toNat).kind), str ((at_nod l ((i : Int)).toNat).path), .int .i64 ((at_nod l ((i : Int)).toNat).mode), str ((at_nod l ((i : Int)).toNat).target), ((at_nod l ((i : Int)).toNat).dv), .int .i64 ((at_nod l ((i : Int)).toNat).cls)]) Tryd.underlying30 rfl (show _ = some 6 by kernel_rfl) rfl hk18 rfl) rfl rfl rfl ?_
        refine L_dos (D_store (us := [.int .i64 ((at_nod l ((i : Int)).toNat).kind), str ((at_nod l ((i : Int)).toNat).path), .int .i64 ((at_nod l ((i : Int)).toNat).mode), str ((at_nod l ((i : Int)).toNat).target), ((at_nod l ((i : Int)).toNat).dv), .int .i64 ((at_nod l ((i : Int)).toNat).cls)]) (show _ = some 6 by kernel_rfl) rfl rfl rfl (by intro u_ hu_; simp only [List.mem_cons, List.not_mem_nil, or_false] at hu_; rcases hu_ with rfl | rfl | rfl | rfl | rfl | rfl <;> first | rfl | exact ((show Bytes _ ((at_nod l ((i : Int)).toNat).dv) ((at_nod l ((i : Int)).toNat).data) from (hl.ext ((((((((((hx1.trans hx3).trans hx4).trans hx6).trans hn7.ext).then' hp9.only (by simp) (Nat.le_trans (Nat.le_trans (Nat.le_trans hx1.size hx3.size) hx4.size) hx6.size)).trans hn11.ext).then' hp13.only (by simp) (Nat.le_trans (Nat.le_trans (Nat.le_trans (Nat.le_trans (Nat.le_trans hx1.size hx3.size) hx4.size) hx6.size) hn7.ext.size) hp9.only.size)).trans hxa).trans hn15.ext).then' hp17.only (by simp) (Nat.le_trans (Nat.le_trans (Nat.le_trans (Nat.le_trans (Nat.le_trans (Nat.le_trans (Nat.le_trans (Nat.le_trans hx1.size hx3.size) hx4.size) hx6.size) hn7.ext.size) hp9.only.size) hn11.ext.size) hp13.only.size) hxa.size))).okat (k := ((i : Int)).toNat) (by omega))).cell1) (hk14.ext ((hxa.trans hn15.ext).then' hp17.only (by simp) hxa.size)) (by simp)) rfl rfl ?_
        rintro h13 hp19
        have hk20 : Blk h13 h7.size [.int .i64 ((at_nod l ((i : Int)).toNat).kind), str ((at_nod l ((i : Int)).toNat).path), .int .i64 ((at_nod l ((i : Int)).toNat).mode), str ((at_nod l ((i : Int)).toNat).target), ((at_nod l ((i : Int)).toNat).dv), .int .i64 ((at_nod l ((i : Int)).toNat).cls)] := hp19.blk
        refine L_yld (Y_assign rfl) rfl rfl rfl ?_
        refine L_nil ?_
        refine X_then ?_
        refine W_sub _ (.cons (i := 12) rfl (.cons (i := 37) rfl (.cons (i := 36) rfl (.cons (i := 11) rfl (.cons (i := 10) rfl (.cons (i := 9) rfl (.cons (i := 8) rfl (.cons (i := 7) rfl (.cons (i := 6) rfl (.cons (i := 5) rfl (.cons (i := 4) rfl (.cons (i := 1) rfl (.cons (i := 38) rfl (.nil _)))))))))))))) ?_
        refine W_exit ?_
        refine X_block_miss rfl ?_
        refine X_then_exit ?_
        refine X_then_exit ?_
        refine X_block_hit ?_
        refine X_then ?_
        refine W_sub _ (.cons (i := 12) rfl (.cons (i := 11) rfl (.cons (i := 10) rfl (.cons (i := 9) rfl (.cons (i := 8) rfl (.cons (i := 7) rfl (.cons (i := 6) rfl (.cons (i := 5) rfl (.cons (i := 4) rfl (.nil _)))))))))) ?_
        have hp := pfirst_eq (l := l) (q := q) (k := i) y h0 (by omega)
        have hf : fnode l q = at_nod l i := by unfold fnode; rw [if_pos (by omega), hp]
        refine W_seq ?_
        refine W_region ?_
        refine L_call (E_call (by kernel_rfl) rfl) (law13_alive _ (hK.ext (((((((((((hx1.trans hx3).trans hx4).trans hx6).trans hn7.ext).then' hp9.only (by simp) (Nat.le_trans (Nat.le_trans (Nat.le_trans hx1.size hx3.size) hx4.size) hx6.size)).trans hn11.ext).then' hp13.only (by simp) (Nat.le_trans (Nat.le_trans (Nat.le_trans (Nat.le_trans (Nat.le_trans hx1.size hx3.size) hx4.size) hx6.size) hn7.ext.size) hp9.only.size)).trans hxa).trans hn15.ext).then' hp17.only (by simp) (Nat.le_trans (Nat.le_trans (Nat.le_trans (Nat.le_trans (Nat.le_trans (Nat.le_trans (Nat.le_trans (Nat.le_trans hx1.size hx3.size) hx4.size) hx6.size) hn7.ext.size) hp9.only.size) hn11.ext.size) hp13.only.size) hxa.size)).then' hp19.only (by simp) (Nat.le_trans (Nat.le_trans (Nat.le_trans (Nat.le_trans (Nat.le_trans hx1.size hx3.size) hx4.size) hx6.size) hn7.ext.size) hp9.only.size))) (hE.ext (((((((((((hx1.trans hx3).trans hx4).trans hx6).trans hn7.ext).then' hp9.only (by simp) (Nat.le_trans (Nat.le_trans (Nat.le_trans hx1.size hx3.size) hx4.size) hx6.size)).trans hn11.ext).then' hp13.only (by simp) (Nat.le_trans (Nat.le_trans (Nat.le_trans (Nat.le_trans (Nat.le_trans hx1.size hx3.size) hx4.size) hx6.size) hn7.ext.size) hp9.only.size)).trans hxa).trans hn15.ext).then' hp17.only (by simp) (Nat.le_trans (Nat.le_trans (Nat.le_trans (Nat.le_trans (Nat.le_trans (Nat.le_trans (Nat.le_trans (Nat.le_trans hx1.size hx3.size) hx4.size) hx6.size) hn7.ext.size) hp9.only.size) hn11.ext.size) hp13.only.size) hxa.size)).then' hp19.only (by simp) (Nat.le_trans (Nat.le_trans (Nat.le_trans (Nat.le_trans (Nat.le_trans hx1.size hx3.size) hx4.size) hx6.size) hn7.ext.size) hp9.only.size)))) rfl rfl rfl ?_
        rintro _ h14 ⟨rfl, hx21⟩
        refine L_yld (Y_move rfl) rfl rfl rfl ?_
        refine L_yld (Y_move rfl) rfl rfl rfl ?_
        refine L_yld (Y_move rfl) rfl rfl rfl ?_
        refine L_yld (Y_eql rfl rfl) rfl rfl rfl ?_
        refine L_yld (Y_pick_t rfl rfl) rfl rfl rfl ?_
        refine L_yld (Y_move rfl) rfl rfl rfl ?_
        refine L_known (d := 54) true rfl (by exact decide_eq_true (by rfl)) ?_
        refine L_yld (Y_move rfl) rfl rfl rfl ?_
        refine L_yld (Y_move rfl) rfl rfl rfl ?_
        refine L_yld (Y_eql rfl rfl) rfl rfl rfl ?_
        refine L_yld (Y_pick_t rfl rfl) rfl rfl rfl ?_
        refine L_yld (Y_move rfl) rfl rfl rfl ?_
        refine L_known (d := 59) true rfl (by exact decide_eq_true (by rfl)) ?_
        refine L_yld (Y_move rfl) rfl rfl rfl ?_
        refine L_yld (Y_move rfl) rfl rfl rfl ?_
        refine L_yld (Y_beql Tryd.underlying4 rfl rfl) rfl rfl rfl ?_
        refine L_yld (Y_pick_t rfl rfl) rfl rfl rfl ?_
        refine L_yld (Y_move rfl) rfl rfl rfl ?_
        refine L_known (d := 64) true rfl (by rw [decide_eq_true (show pfirst l q < l.length by omega)]; rfl) ?_
        refine L_yld (Y_ldbox (us := [.int .i64 ((fnode l q).kind), str ((fnode l q).path), .int .i64 ((fnode l q).mode), str ((fnode l q).target), ((fnode l q).dv), .int .i64 ((fnode l q).cls)]) Tryd.underlying30 rfl (show _ = some 6 by kernel_rfl) rfl (hk10.ext ((((((hn11.ext.then' hp13.only (by simp) (Nat.le_refl _)).trans hxa).trans hn15.ext).then' hp17.only (by simp) (Nat.le_trans (Nat.le_trans hn11.ext.size hp13.only.size) hxa.size)).then' hp19.only (by simp) (Nat.le_refl _)).trans hx21)) rfl) rfl rfl rfl ?_
        refine L_mks (M_litr (S := nodS) (l := [(fnode l q)]) (cells := [.int .i64 ((fnode l q).kind), str ((fnode l q).path), .int .i64 ((fnode l q).mode), str ((fnode l q).target), ((fnode l q).dv), .int .i64 ((fnode l q).cls)]) (pv := [(0, .agg #[.int .i64 ((fnode l q).kind), str ((fnode l q).path), .int .i64 ((fnode l q).mode), str ((fnode l q).target), ((fnode l q).dv), .int .i64 ((fnode l q).cls)])]) (E := 30) (evp (is := [0]) (os := [.tmp 65]) (vs := [.agg #[.int .i64 ((fnode l q).kind), str ((fnode l q).path), .int .i64 ((fnode l q).mode), str ((fnode l q).target), ((fnode l q).dv), .int .i64 ((fnode l q).cls)]]) rfl rfl) rfl rfl (fun _ => by kernel_rfl) (by simp only [List.mem_cons, List.not_mem_nil, or_false, forall_eq_or_imp, forall_eq]; exact (hr05.ext ((((((((hn7.ext.then' hp9.only (by simp) (Nat.le_refl _)).trans hn11.ext).then' hp13.only (by simp) (Nat.le_trans hn7.ext.size hp9.only.size)).trans hxa).trans hn15.ext).then' hp17.only (by simp) (Nat.le_trans (Nat.le_trans (Nat.le_trans (Nat.le_trans hn7.ext.size hp9.only.size) hn11.ext.size) hp13.only.size) hxa.size)).then' hp19.only (by simp) (Nat.le_trans hn7.ext.size hp9.only.size)).trans hx21)))) rfl rfl rfl ?_
        rintro v22 h15 ⟨ho23, hx24⟩
        refine L_yld (Y_ldbox (us := [.int .i64 ((at_nod l ((i : Int)).toNat).kind), str ((at_nod l ((i : Int)).toNat).path), .int .i64 ((at_nod l ((i : Int)).toNat).mode), str ((at_nod l ((i : Int)).toNat).target), ((at_nod l ((i : Int)).toNat).dv), .int .i64 ((at_nod l ((i : Int)).toNat).cls)]) Tryd.underlying30 rfl (show _ = some 6 by kernel_rfl) rfl (hk20.ext (hx21.trans hx24)) rfl) rfl rfl rfl ?_
        refine L_mks (M_litr (S := nodS) (l := [(at_nod l ((i : Int)).toNat)]) (cells := [.int .i64 ((at_nod l ((i : Int)).toNat).kind), str ((at_nod l ((i : Int)).toNat).path), .int .i64 ((at_nod l ((i : Int)).toNat).mode), str ((at_nod l ((i : Int)).toNat).target), ((at_nod l ((i : Int)).toNat).dv), .int .i64 ((at_nod l ((i : Int)).toNat).cls)]) (pv := [(0, .agg #[.int .i64 ((at_nod l ((i : Int)).toNat).kind), str ((at_nod l ((i : Int)).toNat).path), .int .i64 ((at_nod l ((i : Int)).toNat).mode), str ((at_nod l ((i : Int)).toNat).target), ((at_nod l ((i : Int)).toNat).dv), .int .i64 ((at_nod l ((i : Int)).toNat).cls)])]) (E := 30) (evp (is := [0]) (os := [.tmp 67]) (vs := [.agg #[.int .i64 ((at_nod l ((i : Int)).toNat).kind), str ((at_nod l ((i : Int)).toNat).path), .int .i64 ((at_nod l ((i : Int)).toNat).mode), str ((at_nod l ((i : Int)).toNat).target), ((at_nod l ((i : Int)).toNat).dv), .int .i64 ((at_nod l ((i : Int)).toNat).cls)]]) rfl rfl) rfl rfl (fun _ => by kernel_rfl) (by simp only [List.mem_cons, List.not_mem_nil, or_false, forall_eq_or_imp, forall_eq]; exact (show Bytes _ ((at_nod l ((i : Int)).toNat).dv) ((at_nod l ((i : Int)).toNat).data) from (hl.ext (((((((((((((hx1.trans hx3).trans hx4).trans hx6).trans hn7.ext).then' hp9.only (by simp) (Nat.le_trans (Nat.le_trans (Nat.le_trans hx1.size hx3.size) hx4.size) hx6.size)).trans hn11.ext).then' hp13.only (by simp) (Nat.le_trans (Nat.le_trans (Nat.le_trans (Nat.le_trans (Nat.le_trans hx1.size hx3.size) hx4.size) hx6.size) hn7.ext.size) hp9.only.size)).trans hxa).trans hn15.ext).then' hp17.only (by simp) (Nat.le_trans (Nat.le_trans (Nat.le_trans (Nat.le_trans (Nat.le_trans (Nat.le_trans (Nat.le_trans (Nat.le_trans hx1.size hx3.size) hx4.size) hx6.size) hn7.ext.size) hp9.only.size) hn11.ext.size) hp13.only.size) hxa.size)).then' hp19.only (by simp) (Nat.le_trans (Nat.le_trans (Nat.le_trans (Nat.le_trans (Nat.le_trans hx1.size hx3.size) hx4.size) hx6.size) hn7.ext.size) hp9.only.size)).trans hx21).trans hx24)).okat (k := ((i : Int)).toNat) (by omega)))) rfl rfl rfl ?_
        rintro v25 h16 ⟨ho26, hx27⟩
        refine L_call (E_call (by kernel_rfl) rfl) (ref13_Same _ v22 [(fnode l q)] (ho23.rows.ext hx27) v25 [(at_nod l ((i : Int)).toNat)] ho26.rows (by first | omega | rfl | (simp <;> omega))) rfl rfl rfl ?_
        rintro _ h17 ⟨rfl, hx28⟩
        refine L_yld (Y_pick_t rfl rfl) rfl rfl rfl ?_
        refine L_yld (Y_assign rfl) rfl rfl rfl ?_
        refine L_nil ?_
        refine X_then ?_
        refine W_sub _ (.cons (i := 4) rfl (.nil _)) ?_
        refine W_ret ?_
        refine X_ret1 rfl rfl ?_
        exact ⟨congrArg Value.bool (lsame_one (by rw [hf]; exact nsame_refl _)), (((((((((((((((hx1.trans hx3).trans hx4).trans hx6).trans hn7.ext).then' hp9.only (by simp) (Nat.le_trans (Nat.le_trans (Nat.le_trans hx1.size hx3.size) hx4.size) hx6.size)).trans hn11.ext).then' hp13.only (by simp) (Nat.le_trans (Nat.le_trans (Nat.le_trans (Nat.le_trans (Nat.le_trans hx1.size hx3.size) hx4.size) hx6.size) hn7.ext.size) hp9.only.size)).trans hxa).trans hn15.ext).then' hp17.only (by simp) (Nat.le_trans (Nat.le_trans (Nat.le_trans (Nat.le_trans (Nat.le_trans (Nat.le_trans (Nat.le_trans (Nat.le_trans hx1.size hx3.size) hx4.size) hx6.size) hn7.ext.size) hp9.only.size) hn11.ext.size) hp13.only.size) hxa.size)).then' hp19.only (by simp) (Nat.le_trans (Nat.le_trans (Nat.le_trans (Nat.le_trans (Nat.le_trans hx1.size hx3.size) hx4.size) hx6.size) hn7.ext.size) hp9.only.size)).trans hx21).trans hx24).trans hx27).trans hx28)⟩
      · refine W_skip ?_
        refine X_block ?_
        refine X_then ?_
        refine W_sub _ (.cons (i := 37) rfl (.cons (i := 36) rfl (.cons (i := 11) rfl (.cons (i := 10) rfl (.cons (i := 9) rfl (.cons (i := 8) rfl (.cons (i := 7) rfl (.cons (i := 6) rfl (.cons (i := 5) rfl (.cons (i := 4) rfl (.cons (i := 1) rfl (.cons (i := 12) rfl (.cons (i := 38) rfl (.nil _)))))))))))))) ?_
        refine W_region ?_
        refine L_yld (Y_add rfl rfl (by omega) (by omega)) rfl rfl rfl ?_
        refine L_yld (Y_move rfl) rfl rfl rfl ?_
        refine L_nil ?_
        refine X_loop (i + 1) (.cons (i := 37) rfl (.cons (i := 36) rfl (.cons (i := 11) rfl (.cons (i := 10) rfl (.cons (i := 9) rfl (.cons (i := 8) rfl (.cons (i := 7) rfl (.cons (i := 6) rfl (.cons (i := 5) rfl (.cons (i := 4) rfl (.cons (i := 1) rfl (.cons (i := 12) rfl (.cons (i := 38) rfl (.nil _)))))))))))))) ?_ ?_
        · exact ⟨⟨by omega, step_ne h0 y⟩, ((hxa.trans hn15.ext).then' hp17.only (by simp) hxa.size)⟩
        · (try dsimp only)
          omega
    · refine W_exit ?_
      refine X_then_exit ?_
      refine X_then_exit ?_
      refine X_block_hit ?_
      refine X_then ?_
      refine W_sub _ (.cons (i := 11) rfl (.cons (i := 10) rfl (.cons (i := 9) rfl (.cons (i := 8) rfl (.cons (i := 7) rfl (.cons (i := 6) rfl (.cons (i := 5) rfl (.cons (i := 4) rfl (.cons (i := 12) rfl (.nil _)))))))))) ?_
      have hp := pfirst_end (l := l) (q := q) (fun k hk => h0 k (by omega))
      have hf : fnode l q = nodS.d := by unfold fnode; rw [if_neg (by omega)]
      refine W_seq ?_
      refine W_region ?_
      refine L_call (E_call (by kernel_rfl) rfl) (law13_alive _ (hK.ext ((((((((hx1.trans hx3).trans hx4).trans hx6).trans hn7.ext).then' hp9.only (by simp) (Nat.le_trans (Nat.le_trans (Nat.le_trans hx1.size hx3.size) hx4.size) hx6.size)).trans hn11.ext).then' hp13.only (by simp) (Nat.le_trans (Nat.le_trans (Nat.le_trans (Nat.le_trans (Nat.le_trans hx1.size hx3.size) hx4.size) hx6.size) hn7.ext.size) hp9.only.size)).trans hxa)) (hE.ext ((((((((hx1.trans hx3).trans hx4).trans hx6).trans hn7.ext).then' hp9.only (by simp) (Nat.le_trans (Nat.le_trans (Nat.le_trans hx1.size hx3.size) hx4.size) hx6.size)).trans hn11.ext).then' hp13.only (by simp) (Nat.le_trans (Nat.le_trans (Nat.le_trans (Nat.le_trans (Nat.le_trans hx1.size hx3.size) hx4.size) hx6.size) hn7.ext.size) hp9.only.size)).trans hxa))) rfl rfl rfl ?_
      rintro _ h18 ⟨rfl, hx29⟩
      refine L_yld (Y_move rfl) rfl rfl rfl ?_
      refine L_yld (Y_move rfl) rfl rfl rfl ?_
      refine L_yld (Y_move rfl) rfl rfl rfl ?_
      refine L_yld (Y_eql rfl rfl) rfl rfl rfl ?_
      refine L_yld (Y_pick_t rfl rfl) rfl rfl rfl ?_
      refine L_yld (Y_move rfl) rfl rfl rfl ?_
      refine L_known (d := 54) true rfl (by exact decide_eq_true (by rfl)) ?_
      refine L_yld (Y_move rfl) rfl rfl rfl ?_
      refine L_yld (Y_move rfl) rfl rfl rfl ?_
      refine L_yld (Y_eql rfl rfl) rfl rfl rfl ?_
      refine L_yld (Y_pick_t rfl rfl) rfl rfl rfl ?_
      refine L_yld (Y_move rfl) rfl rfl rfl ?_
      refine L_known (d := 59) true rfl (by exact decide_eq_true (by rfl)) ?_
      refine L_yld (Y_move rfl) rfl rfl rfl ?_
      refine L_yld (Y_move rfl) rfl rfl rfl ?_
      refine L_yld (Y_beql Tryd.underlying4 rfl rfl) rfl rfl rfl ?_
      refine L_yld (Y_pick_t rfl rfl) rfl rfl rfl ?_
      refine L_yld (Y_move rfl) rfl rfl rfl ?_
      refine L_known (d := 64) true rfl (by rw [decide_eq_false (show ¬ pfirst l q < l.length by omega)]; rfl) ?_
      refine L_yld (Y_ldbox (us := [.int .i64 ((fnode l q).kind), str ((fnode l q).path), .int .i64 ((fnode l q).mode), str ((fnode l q).target), ((fnode l q).dv), .int .i64 ((fnode l q).cls)]) Tryd.underlying30 rfl (show _ = some 6 by kernel_rfl) rfl (hk10.ext (((hn11.ext.then' hp13.only (by simp) (Nat.le_refl _)).trans hxa).trans hx29)) rfl) rfl rfl rfl ?_
      refine L_mks (M_litr (S := nodS) (l := [(fnode l q)]) (cells := [.int .i64 ((fnode l q).kind), str ((fnode l q).path), .int .i64 ((fnode l q).mode), str ((fnode l q).target), ((fnode l q).dv), .int .i64 ((fnode l q).cls)]) (pv := [(0, .agg #[.int .i64 ((fnode l q).kind), str ((fnode l q).path), .int .i64 ((fnode l q).mode), str ((fnode l q).target), ((fnode l q).dv), .int .i64 ((fnode l q).cls)])]) (E := 30) (evp (is := [0]) (os := [.tmp 65]) (vs := [.agg #[.int .i64 ((fnode l q).kind), str ((fnode l q).path), .int .i64 ((fnode l q).mode), str ((fnode l q).target), ((fnode l q).dv), .int .i64 ((fnode l q).cls)]]) rfl rfl) rfl rfl (fun _ => by kernel_rfl) (by simp only [List.mem_cons, List.not_mem_nil, or_false, forall_eq_or_imp, forall_eq]; exact (hr05.ext (((((hn7.ext.then' hp9.only (by simp) (Nat.le_refl _)).trans hn11.ext).then' hp13.only (by simp) (Nat.le_trans hn7.ext.size hp9.only.size)).trans hxa).trans hx29)))) rfl rfl rfl ?_
      rintro v30 h19 ⟨ho31, hx32⟩
      refine L_yld (Y_ldbox (us := [.int .i64 0, str [], .int .i64 0, str [], .slice none 0 0, .int .i64 0]) Tryd.underlying30 rfl (show _ = some 6 by kernel_rfl) rfl (hk14.ext ((hxa.trans hx29).trans hx32)) rfl) rfl rfl rfl ?_
      refine L_mks (M_litr (S := nodS) (l := [⟨(0 : Int), [], (0 : Int), [], .slice none 0 0, ([] : List UInt8), (0 : Int)⟩]) (cells := [.int .i64 0, str [], .int .i64 0, str [], .slice none 0 0, .int .i64 0]) (pv := [(0, .agg #[.int .i64 0, str [], .int .i64 0, str [], .slice none 0 0, .int .i64 0])]) (E := 30) (evp (is := [0]) (os := [.tmp 67]) (vs := [.agg #[.int .i64 0, str [], .int .i64 0, str [], .slice none 0 0, .int .i64 0]]) rfl rfl) rfl rfl (fun _ => by kernel_rfl) (by simp only [List.mem_cons, List.not_mem_nil, or_false, forall_eq_or_imp, forall_eq]; exact (Bytes.nil _))) rfl rfl rfl ?_
      rintro v33 h20 ⟨ho34, hx35⟩
      refine L_call (E_call (by kernel_rfl) rfl) (ref13_Same _ v30 [(fnode l q)] (ho31.rows.ext hx35) v33 [⟨(0 : Int), [], (0 : Int), [], .slice none 0 0, ([] : List UInt8), (0 : Int)⟩] ho34.rows (by first | omega | rfl | (simp <;> omega))) rfl rfl rfl ?_
      rintro _ h21 ⟨rfl, hx36⟩
      refine L_yld (Y_pick_t rfl rfl) rfl rfl rfl ?_
      refine L_yld (Y_assign rfl) rfl rfl rfl ?_
      refine L_nil ?_
      refine X_then ?_
      refine W_sub _ (.cons (i := 4) rfl (.nil _)) ?_
      refine W_ret ?_
      refine X_ret1 rfl rfl ?_
      exact ⟨congrArg Value.bool (lsame_one (by rw [hf]; exact nsame_refl _)), ((((((((((((hx1.trans hx3).trans hx4).trans hx6).trans hn7.ext).then' hp9.only (by simp) (Nat.le_trans (Nat.le_trans (Nat.le_trans hx1.size hx3.size) hx4.size) hx6.size)).trans hn11.ext).then' hp13.only (by simp) (Nat.le_trans (Nat.le_trans (Nat.le_trans (Nat.le_trans (Nat.le_trans hx1.size hx3.size) hx4.size) hx6.size) hn7.ext.size) hp9.only.size)).trans hxa).trans hx29).trans hx32).trans hx35).trans hx36)⟩
end Go.Xp
