/- Layer 15 (rebuild): the laws' helpers. -/
import Derived.Test.YtknimfbagbkjfaaDoorBldn
set_option linter.unusedSimpArgs false
set_option linter.unusedVariables false
set_option linter.unusedSectionVars false
namespace Go.Xp
open Go.Proofs

/-! ### The example -/
def exa : Mem := ⟨0, [97], 0, [], 0, .slice none 0 0, []⟩
def exf (p : List UInt8) : Mem := ⟨1, p, 0, [], 0, .slice none 0 0, []⟩
theorem ex1 : berr [] exa = 0 := by decide +kernel
theorem ex2 (d1 : Value) : berr ([] ++ [bnod [] exa d1]) (exf [97, 47, 98]) = 0 := by kernel_rfl
theorem ex3 (d1 d2 : Value) : berr (([] ++ [bnod [] exa d1]) ++ [bnod ([] ++ [bnod [] exa d1]) (exf [97, 47, 98]) d2]) (exf [99, 47, 100]) = 13 := by kernel_rfl
theorem ex4 (d1 d2 : Value) : berr (([] ++ [bnod [] exa d1]) ++ [bnod ([] ++ [bnod [] exa d1]) (exf [97, 47, 98]) d2]) (exf [65]) = 12 := by kernel_rfl
set_option maxRecDepth 100000 in
theorem law15_alive1 (h : Heap) (p : List UInt8) : Cal Tryd.prog 36 #[str p] h (fun v h' => v = .agg #[.int .i64 1, str p, .int .i64 0, str [], .int .i64 0, .slice none 0 0] ∧ Ext h h') := by
 refine Cal_enter (args := [str p]) Tryd.func36 rfl rfl rfl (fun σ => ?_)
 refine Wr ?_
 refine L_mks (M_alloc (u := .agg #[.int .i64 0, str [], .int .i64 0, str [], .int .i64 0, .slice none 0 0]) (by kernel_rfl)) rfl rfl rfl ?_
 rintro _ h1 ⟨rfl, hn1⟩
 have hk2 : Blk h1 h.size [.int .i64 0, str [], .int .i64 0, str [], .int .i64 0, .slice none 0 0] := hn1.blk
 refine L_nil (X_then (W_seq (W_region ?_)))
 refine Mv ?_
 refine Ly (Y_build (v := .agg #[.int .i64 1, str p, .int .i64 0, str [], .int .i64 0]) (pv := [(0, .int .i64 1), (1, str p)]) (evp (is := [0, 1]) (os := [.const (.int .i64 1), .tmp 3]) (vs := [.int .i64 1, str p]) rfl rfl) (fun _ => by kernel_rfl)) ?_
 refine Ly (Y_build (v := .agg #[.int .i64 1, str p, .int .i64 0, str [], .int .i64 0, .slice none 0 0]) (pv := [(0, .agg #[.int .i64 1, str p, .int .i64 0, str [], .int .i64 0])]) (evp (is := [0]) (os := [.tmp 4]) (vs := [.agg #[.int .i64 1, str p, .int .i64 0, str [], .int .i64 0]]) rfl rfl) (fun _ => by kernel_rfl)) ?_
 refine L_dos (D_store (us := [.int .i64 1, str p, .int .i64 0, str [], .int .i64 0, .slice none 0 0]) (show _ = some 6 by kernel_rfl) rfl rfl rfl (by simp [Value.oneCell']) hk2 (by simp)) rfl rfl ?_
 rintro h2 hp3
 have hk4 : Blk h2 h.size [.int .i64 1, str p, .int .i64 0, str [], .int .i64 0, .slice none 0 0] := hp3.blk
 refine Nx ?_
 refine W_sub _ (tk1 2) ?_
 refine W_ret ?_
 refine X_retv1 rfl (RV.agg rfl Tryd.underlying30 rfl (show _ = some 6 by kernel_rfl) hk4) ?_
 exact ⟨rfl, (hn1.ext.then' hp3.only (by simp) (Nat.le_refl _))⟩
set_option maxRecDepth 100000 in
theorem law15_alive (h : Heap) (hK : GlbK h) (hE : GlbE h) : Cal Tryd.prog 16 #[] h (fun v h' => v = .bool true ∧ Ext h h') := by
 refine Cal_enter (args := []) Tryd.func16 rfl rfl rfl (fun σ => ?_)
 refine Wr ?_
 refine Av ?_
 refine L_nil (X_then (W_seq (W_region ?_)))
 refine L_call (E_call (by kernel_rfl) rfl) (bl_New _) rfl rfl rfl ?_
 rintro _ h1 ⟨b0, rfl, uB0, ux0⟩
 refine Av ?_
 refine Nx ?_
 refine W_sub _ (tk2 1 0) ?_
 refine W_seq (W_seq (W_region ?_))
 refine Mv ?_
 refine Ly (Y_pnil (ad := some ⟨b0, 0, none⟩) (show _ = some (TypeDesc.pointer (Tryd.prog.pointee 23)) by kernel_rfl) rfl rfl) ?_
 refine Nx ?_
 refine W_sub _ (tk3 5 1 0) ?_
 refine W_false rfl ?_
 refine Ws ?_
 refine W_sub _ (tk2 1 0) ?_
 refine Wr ?_
 refine Av ?_
 refine L_nil (X_then (W_seq (W_region ?_)))
 refine Mv ?_
 refine Ly (Y_build (v := .agg #[.int .i64 0, str [97], .int .i64 0, str [], .int .i64 0]) (pv := [(0, .int .i64 0), (1, str [97])]) (evp (is := [0, 1]) (os := [.const (.int .i64 0), .const (str [97])]) (vs := [.int .i64 0, str [97]]) rfl rfl) (fun _ => by kernel_rfl)) ?_
 refine Ly (Y_build (v := .agg #[.int .i64 0, str [97], .int .i64 0, str [], .int .i64 0, .slice none 0 0]) (pv := [(0, .agg #[.int .i64 0, str [97], .int .i64 0, str [], .int .i64 0])]) (evp (is := [0]) (os := [.tmp 7]) (vs := [.agg #[.int .i64 0, str [97], .int .i64 0, str [], .int .i64 0]]) rfl rfl) (fun _ => by kernel_rfl)) ?_
 refine L_call (E_call (by kernel_rfl) rfl) (bl_Add (hK.ext ux0) (hE.ext ux0) uB0 (Ext.refl _) ux0 exa (Bytes.nil _) (by decide) (by decide)) rfl rfl rfl ?_
 rintro _ h2 ⟨rfl, ⟨us1, uy1, ug1, ul1⟩, uo1⟩
 obtain ⟨d1, uB1⟩ := (uo1.resolve_left (fun q => q.1 ex1)).2
 refine Ly (Y_eql rfl rfl) ?_
 refine Mv ?_
 refine L_known (d := 11) true rfl (by exact decide_eq_true (by exact ex1)) ?_
 refine Mv ?_
 refine Mv ?_
 refine L_call (E_callv (fs := []) (cs := []) (by kernel_rfl) rfl rfl) (law15_alive1 _ [97, 47, 98]) rfl rfl rfl ?_
 rintro _ h3 ⟨rfl, hx1⟩
 refine L_call (E_call (by kernel_rfl) rfl) (bl_Add (hK.ext ((ux0.then' uy1 ug1 (Nat.le_refl _)).trans hx1)) (hE.ext ((ux0.then' uy1 ug1 (Nat.le_refl _)).trans hx1)) uB1 hx1 ((ux0.then' uy1 ug1 (Nat.le_refl _)).trans hx1) (exf [97, 47, 98]) (Bytes.nil _) (by simp) (by decide)) rfl rfl rfl ?_
 rintro _ h4 ⟨rfl, ⟨us2, uy2, ug2, ul2⟩, uo2⟩
 obtain ⟨d2, uB2⟩ := (uo2.resolve_left (fun q => q.1 (ex2 d1))).2
 refine Ly (Y_eql rfl rfl) ?_
 refine Ly (Y_pick_t rfl rfl) ?_
 refine Mv ?_
 refine L_known (d := 18) true rfl (by exact decide_eq_true (by exact ex2 d1)) ?_
 refine Mv ?_
 refine Mv ?_
 refine L_call (E_callv (fs := []) (cs := []) (by kernel_rfl) rfl rfl) (law15_alive1 _ [99, 47, 100]) rfl rfl rfl ?_
 rintro _ h5 ⟨rfl, hx2⟩
 have me1 := ((ux0.then' uy1 ug1 (Nat.le_refl _)).trans hx1).then' uy2 ug2 (Nat.le_refl _)
 refine L_call (E_call (by kernel_rfl) rfl) (bl_Add (hK.ext (me1.trans hx2)) (hE.ext (me1.trans hx2)) uB2 hx2 (me1.trans hx2) (exf [99, 47, 100]) (Bytes.nil _) (by simp) (by decide)) rfl rfl rfl ?_
 rintro _ h6 ⟨rfl, -, uo3⟩
 have ux3 := (uo3.resolve_right (fun q => by rw [ex3 d1 d2] at q; exact absurd q.1 (by decide))).2
 refine Ly (Y_eql rfl rfl) ?_
 refine Ly (Y_pick_t rfl rfl) ?_
 refine Mv ?_
 refine L_known (d := 25) true rfl (by exact decide_eq_true (by exact ex3 d1 d2)) ?_
 refine Mv ?_
 refine Mv ?_
 refine L_call (E_callv (fs := []) (cs := []) (by kernel_rfl) rfl rfl) (law15_alive1 _ [65]) rfl rfl rfl ?_
 rintro _ h7 ⟨rfl, hx3⟩
 refine L_call (E_call (by kernel_rfl) rfl) (bl_Add (hK.ext (((me1.trans hx2).trans ux3).trans hx3)) (hE.ext (((me1.trans hx2).trans ux3).trans hx3)) uB2 ((hx2.trans ux3).trans hx3) (((me1.trans hx2).trans ux3).trans hx3) (exf [65]) (Bytes.nil _) (by simp) (by decide)) rfl rfl rfl ?_
 rintro _ h8 ⟨rfl, -, uo4⟩
 have ux4 := (uo4.resolve_right (fun q => by rw [ex4 d1 d2] at q; exact absurd q.1 (by decide))).2
 refine Ly (Y_eql rfl rfl) ?_
 refine Ly (Y_pick_t rfl rfl) ?_
 refine Mv ?_
 refine L_known (d := 32) true rfl (by exact decide_eq_true (by exact ex4 d1 d2)) ?_
 refine Mv ?_
 refine L_call (E_call (by kernel_rfl) rfl) (bl_Nodes (hK.ext ((((me1.trans hx2).trans ux3).trans hx3).trans ux4)) (hE.ext ((((me1.trans hx2).trans ux3).trans hx3).trans ux4)) (uB2.ext (((hx2.trans ux3).trans hx3).trans ux4)) (by simp)) rfl rfl rfl ?_
 rintro uv5 h9 ⟨uR5, uL5, uq5, ux5⟩
 refine Ly (Y_lenr Tryd.underlying32 rfl uL5) ?_
 refine Ly (Y_eql rfl rfl) ?_
 refine Ly (Y_pick_t rfl rfl) ?_
 refine Av ?_
 refine Nx ?_
 refine W_sub _ (tk1 0) ?_
 refine W_ret ?_
 refine X_ret1 rfl rfl ?_
 have me2 := ((((me1.trans hx2).trans ux3).trans hx3).trans ux4).trans ux5
 exact ⟨congrArg Value.bool (decide_eq_true (by have := uq5.1; simp at this; omega)), me2⟩
end Go.Xp
