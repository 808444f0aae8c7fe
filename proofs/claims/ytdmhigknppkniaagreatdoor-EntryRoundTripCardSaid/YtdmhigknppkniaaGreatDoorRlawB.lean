/- Layer 12 (entry): the law EntryRoundTrip. -/
import Derived.Test.YtdmhigknppkniaaGreatDoorNew
import Derived.Test.YtdmhigknppkniaaGreatDoorDco
import Derived.Test.YtdmhigknppkniaaGreatDoorRtL
import Derived.Test.YtdmhigknppkniaaGreatDoorStm
import Derived.Test.YtdmhigknppkniaaGreatDoorLaidI
set_option linter.unusedSimpArgs false
set_option linter.unusedVariables false
set_option linter.unusedSectionVars false
namespace Go.Xp
open Go.Proofs

section
variable {h : Heap} {lo hi r s : Nat} {D B : List UInt8} {P : Nat} {k m z : Int} {p tg : List UInt8}
theorem rt_Decode (e : fcheck k p m tg z = 0) (hD : D.drop P = eenc k p m tg z ++ B) (uR : RdA lo hi h r s D (-1) P 0) (hl : D.length ≤ 100000000000) (hR0 : Heap) (xR0 : Ext hR0 h) (hlo : hR0.size ≤ lo) (hG : Glb hR0) (hK : GlbK hR0) (hN : GlbN hR0) (hE : GlbE hR0) (hT : GlbT hR0) (hS : GlbS hR0) :
    Cal Tryz.prog 11 #[.pointer (some ⟨r, 0, none⟩)] h (fun v h' => v = .tuple #[.agg #[.int .i64 k, str p, .int .i64 m, str tg, .int .i64 z], .int .i64 (P : Int), .int .i64 0] ∧ Only [r, s] h h' ∧ RdA lo hi h' r s D (-1) (P + (eenc k p m tg z).length) 0) :=
  (entry_Decode h lo hi r s D (-1) P 0 uR hl (by decide) hR0 xR0 hlo hG hK hN hE hT hS).mono fun v h' q => by
    rw [dcd_eenc e hD] at q; exact q
theorem rt_DecodeN {n x : Int} (e : ∃ pos er, dcd D (-1) P 0 = dz n x pos er) (uR : RdA lo hi h r s D (-1) P 0) (hl : D.length ≤ 100000000000) (hR0 : Heap) (xR0 : Ext hR0 h) (hlo : hR0.size ≤ lo) (hG : Glb hR0) (hK : GlbK hR0) (hN : GlbN hR0) (hE : GlbE hR0) (hT : GlbT hR0) (hS : GlbS hR0) :
    Cal Tryz.prog 11 #[.pointer (some ⟨r, 0, none⟩)] h (fun v h' => v = .tuple #[.agg #[.int .i64 0, str [], .int .i64 0, str [], .int .i64 0], .int .i64 n, .int .i64 x] ∧ Only [r, s] h h' ∧ ∃ pos er, RdA lo hi h' r s D (-1) pos er) := by
  obtain ⟨pos, er, e⟩ := e
  exact (entry_Decode h lo hi r s D (-1) P 0 uR hl (by decide) hR0 xR0 hlo hG hK hN hE hT hS).mono fun v h' q => by
    rw [e] at q; exact ⟨q.1, q.2.1, _, _, q.2.2⟩
theorem eenc_small (e : fcheck k p m tg z = 0) : (eenc k p m tg z).length ≤ 200000 := by
  have h1 := eenc_len e
  have h2 := rfmt_le e
  have h3 := padn_lt (rfmt (fR (fcheck k p m tg z) p tg z)).length
  rw [h1]
  split <;> omega
end
set_option maxRecDepth 100000 in
theorem lawEntryRoundS (h : Heap) (hG : Glb h) (hK : GlbK h) (hN : GlbN h) (hE : GlbE h) (hT : GlbT h) (hS : GlbS h) (k : Int) (p : List UInt8) (m : Int) (tg : List UInt8) (z : Int) (a0 : Option Addr) (n0 c0 : Nat) (C : List Int) (hc : Rows intS h (.slice a0 n0 c0) C) (f : Int) (u : Int) (hk : -9223372036854775808 ≤ k ∧ k ≤ 9223372036854775807) (hp : p.length ≤ 140737488355328) (hm : -9223372036854775808 ≤ m ∧ m ≤ 9223372036854775807) (ht : tg.length ≤ 140737488355328) (hz : -9223372036854775808 ≤ z ∧ z ≤ 9223372036854775807) (hC : C.length ≤ 140737488355328) (hf : -9223372036854775808 ≤ f ∧ f ≤ 9223372036854775807) (hu : 0 ≤ u ∧ u ≤ 65535) : Cal Tryz.prog 4 #[.agg #[.int .i64 (k), str p, .int .i64 (m), str tg, .int .i64 (z)], .agg #[(.slice a0 n0 c0), .int .i64 (f)], .int .u16 (u)] h (fun v h' => v = .bool true ∧ Ext h h') := by
 refine Cal_enter (args := [.agg #[.int .i64 (k), str p, .int .i64 (m), str tg, .int .i64 (z)], .agg #[(.slice a0 n0 c0), .int .i64 (f)], .int .u16 (u)]) Tryz.func4 rfl rfl rfl (fun σ => ?_)
 refine Wr ?_
 refine L_mks (M_box rfl) rfl rfl rfl ?_
 rintro _ h1 ⟨rfl, hn1⟩
 have hk2 : Blk h1 h.size [.int .i64 (k), str p, .int .i64 (m), str tg, .int .i64 (z)] := hn1.blk
 refine L_mks (M_box rfl) rfl rfl rfl ?_
 rintro _ h2 ⟨rfl, hn3⟩
 have hk4 : Blk h2 h1.size [(.slice a0 n0 c0), .int .i64 (f)] := hn3.blk
 refine Av ?_
 refine Ln (Xt (Wq (Wg ?_)))
 refine Lg Tryz.underlying37 (hk2.ext hn3.ext) ?_
 refine Lc (entry_Encode _ (hG.ext (hn1.ext.trans hn3.ext)) (hK.ext (hn1.ext.trans hn3.ext)) (hN.ext (hn1.ext.trans hn3.ext)) (hE.ext (hn1.ext.trans hn3.ext)) (hT.ext (hn1.ext.trans hn3.ext)) k p m tg z (by first | omega | rfl | (simp <;> omega)) (by first | omega | rfl | (simp <;> omega)) (by first | omega | rfl | (simp <;> omega))) ?_
 rintro _ h3 ⟨s05, rfl, hr06, hx7⟩
 refine Mv ?_
 refine Lx ?_
 refine Lx ?_
 refine A2 ?_
 refine Nx ?_
 refine Wu _ (tk6 8 7 6 4 3 2) ?_
 refine Wq ?_
 refine Wc [(38, .bool (decide ((((0 < (if 70000 < p.length + tg.length then 1 else 0 : Int)) ∨ (¬ (fcheck k p m tg z) = 0)) ∨ (300 < (C.length : Int))) ∨ (((eenc k p m tg z).length : Int) = 0)))), (7, s05), (6, .bool false), (4, .pointer (some ⟨h1.size, 0, none⟩)), (3, .pointer (some ⟨h.size, 0, none⟩)), (2, .int .u16 (u))] (fun h' => Ext h3 h') ?_ ?_
 ·refine Wg ?_
  refine Lg Tryz.underlying37 (hk2.ext (hn3.ext.trans hx7)) ?_
  refine Lc (law10_TooLarge _ k p m tg z (by first | omega | rfl | (simp <;> omega)) (by first | omega | rfl | (simp <;> omega))) ?_
  rintro _ h4 ⟨rfl, hx8⟩
  refine Ly (Y_gtr rfl rfl) ?_
  refine Mv ?_
  refine L_splitd (d := 24) rfl (fun c9 => ?_) (fun c9 => ?_)
  ·refine Skp ?_
   refine Skp ?_
   refine Ly (Y_pick_t rfl rfl) ?_
   refine Mv ?_
   refine Skp ?_
   refine Skp ?_
   refine Skp ?_
   refine Skp ?_
   refine Ly (Y_pick_t rfl rfl) ?_
   refine Mv ?_
   refine Skp ?_
   refine Skp ?_
   refine Skp ?_
   refine Ly (Y_pick_t rfl rfl) ?_
   refine Ln ?_
   exact X_cut () (sk1 38 (lkb rfl (by first | (simp only [eq_true c9, SB]; done) | (simp only [eq_true c9, SB]; rfl))) (sk1 7 rfl (sk1 6 rfl (sk1 4 rfl (sk1 3 rfl (tk1 2)))))) hx8
  refine Ly (Y_move rfl) ?_
  refine Ly (Y_neq rfl rfl) ?_
  refine Ly (Y_pick_f rfl rfl) ?_
  refine Mv ?_
  refine L_splitd (d := 28) rfl (fun c10 => ?_) (fun c10 => ?_)
  ·refine Skp ?_
   refine Skp ?_
   refine Skp ?_
   refine Skp ?_
   refine Ly (Y_pick_t rfl rfl) ?_
   refine Mv ?_
   refine Skp ?_
   refine Skp ?_
   refine Skp ?_
   refine Ly (Y_pick_t rfl rfl) ?_
   refine Ln ?_
   exact X_cut () (sk1 38 (lkb rfl (by first | (simp only [eq_false c9, eq_true c10, SB]; done) | (simp only [eq_false c9, eq_true c10, SB]; rfl))) (sk1 7 rfl (sk1 6 rfl (sk1 4 rfl (sk1 3 rfl (tk1 2)))))) hx8
  refine Lf 0 ?_
  refine Lb Tryz.underlying23 (hk4.ext (hx7.trans hx8)) ?_
  refine Ly (Y_lenr Tryz.underlying23 rfl (hc.ext (((hn1.ext.trans hn3.ext).trans hx7).trans hx8))) ?_
  refine Ly (Y_gtr rfl rfl) ?_
  refine Ly (Y_pick_f rfl rfl) ?_
  refine Mv ?_
  refine L_splitd (d := 34) rfl (fun c11 => ?_) (fun c11 => ?_)
  ·refine Skp ?_
   refine Skp ?_
   refine Skp ?_
   refine Ly (Y_pick_t rfl rfl) ?_
   refine Ln ?_
   exact X_cut () (sk1 38 (lkb rfl (by first | (simp only [eq_false c9, eq_false c10, eq_true c11, SB]; done) | (simp only [eq_false c9, eq_false c10, eq_true c11, SB]; rfl))) (sk1 7 rfl (sk1 6 rfl (sk1 4 rfl (sk1 3 rfl (tk1 2)))))) hx8
  refine Ly (Y_move rfl) ?_
  refine Ly (Y_len Tryz.underlying22 rfl (hr06.ext hx8)) ?_
  refine Ly (Y_eql rfl rfl) ?_
  refine Ly (Y_pick_f rfl rfl) ?_
  refine Ln ?_
  exact X_cut () (sk1 38 (lkb rfl (by first | (simp only [eq_false c9, eq_false c10, eq_false c11, SB]; done) | (simp only [eq_false c9, eq_false c10, eq_false c11, SB]; rfl))) (sk1 7 rfl (sk1 6 rfl (sk1 4 rfl (sk1 3 rfl (tk1 2)))))) hx8
 rintro h5 hx12
 refine W_splitd rfl (fun g => ?_) (fun g => ?_)
 ·refine Wr ?_
  refine Lc (law12_alive _ (hG.ext (((hn1.ext.trans hn3.ext).trans hx7).trans hx12)) (hK.ext (((hn1.ext.trans hn3.ext).trans hx7).trans hx12)) (hN.ext (((hn1.ext.trans hn3.ext).trans hx7).trans hx12)) (hE.ext (((hn1.ext.trans hn3.ext).trans hx7).trans hx12)) (hT.ext (((hn1.ext.trans hn3.ext).trans hx7).trans hx12))) ?_
  rintro _ h6 ⟨rfl, hx13⟩
  refine Av ?_
  refine Ln (Xt (Wt (Xr ?_)))
  refine X_ret1 rfl rfl ?_
  have me1 := (((hn1.ext.trans hn3.ext).trans hx7).trans hx12).trans hx13
  exact ⟨rfl, me1⟩
 refine Ws ?_
 have e0 : fcheck k p m tg z = 0 := Classical.not_not.1 (fun q => g (.inl (.inl (.inr q))))
 have hC9 : C.length ≤ 300 := by omega
 have hne : ¬ (eenc k p m tg z).length = 0 := by omega
 have hes := eenc_small e0
 refine Wr ?_
 refine Lf 0 ?_
 refine Lb Tryz.underlying23 (hk4.ext (hx7.trans hx12)) ?_
 refine Ly (Y_build (v := .agg #[(.slice a0 n0 c0), .int .i64 (-1)]) (pv := [(0, (.slice a0 n0 c0)), (1, .int .i64 (-1))]) (evp (is := [0, 1]) (os := [.tmp 41, .const (.int .i64 (-1))]) (vs := [(.slice a0 n0 c0), .int .i64 (-1)]) rfl rfl) (fun _ => by kernel_rfl)) ?_
 refine L_mks (M_alloc (u := .agg #[.slice none 0 0, .int .i64 0]) (by kernel_rfl)) rfl rfl rfl ?_
 rintro _ h7 ⟨rfl, hn14⟩
 have hk15 : Blk h7 h5.size [.slice none 0 0, .int .i64 0] := hn14.blk
 refine Lds [(.slice a0 n0 c0), .int .i64 (-1)] hk15 ?_
 rintro h8 hp16
 have hk17 : Blk h8 h5.size [(.slice a0 n0 c0), .int .i64 (-1)] := hp16.blk
 refine Nx ?_
 have me2 := (((hn1.ext.trans hn3.ext).trans hx7).trans hx12).trans hn14.ext
 have me3 := me2.then' hp16.only (by simp) (nt (nt (nt hn1.ext.size hn3.ext.size) hx7.size) hx12.size)
 have hla : h.size ≤ (h8).size := (me3 : Ext h h8).size
 refine Wm ?_
 refine Lg Tryz.underlying25 hk17 ?_
 refine Lc (source_New _ s05 (eenc k p m tg z) (hr06.ext ((hx12.trans hn14.ext).then' hp16.only (by simp) hx12.size)) (.slice a0 n0 c0) C (hc.ext me3) (-1) (by omega) (by omega)) ?_
 rintro _ h9 ⟨sA, rfl, uNA, ux1⟩
 refine Lc (block_NewReader _ _ sA (eenc k p m tg z) (-1) uNA) ?_
 rintro _ h10 ⟨rA, rfl, uRA, ux2⟩
 refine An ?_
 refine Wu _ (tk6 10 9 7 6 3 2) ?_
 obtain ⟨la, ha, q1, uRA2⟩ : ∃ la ha, h8.size ≤ la ∧ RdA la ha h10 rA sA (eenc k p m tg z) (-1) 0 0 := ⟨_, _, Nat.le_refl _, uRA⟩
 have ugA : ∀ c ∈ [rA, sA], h8.size ≤ c := fun c hc => nt q1 (uRA2.ge2 c hc)
 refine Wm ?_
 refine L_call (E_call (by kernel_rfl) rfl) (rt_Decode (B := []) e0 (by simp) uRA2 (by omega) h ((me3.trans ux1).trans ux2) (nt hla q1) hG hK hN hE hT hS) rfl rfl rfl ?_
 rintro _ h11 ⟨rfl, uy, uRA4⟩
 refine Mv ?_
 refine Lx ?_
 refine Lx ?_
 refine Lx ?_
 refine L_mks (M_alloc (u := .agg #[.int .i64 0, str [], .int .i64 0, str [], .int .i64 0]) (by kernel_rfl)) rfl rfl rfl ?_
 rintro _ h12 ⟨rfl, hn18⟩
 have hk19 : Blk h12 h11.size [.int .i64 0, str [], .int .i64 0, str [], .int .i64 0] := hn18.blk
 refine Lds [.int .i64 (k), str p, .int .i64 (m), str tg, .int .i64 (z)] hk19 ?_
 rintro h13 hp20
 have hk21 : Blk h13 h11.size [.int .i64 (k), str p, .int .i64 (m), str tg, .int .i64 (z)] := hp20.blk
 refine A2 ?_
 refine Nx ?_
 refine Wu _ (sk1 13 rfl (tk8 12 11 10 9 7 6 3 2)) ?_
 refine Wq (Wq (Wg ?_))
 refine Mv ?_
 refine Ly (Y_neq rfl rfl) ?_
 refine Mv ?_
 refine L_known (d := 55) false rfl (by first | rfl | decide | simp) ?_
 refine Lg Tryz.underlying37 hk21 ?_
 have me4 := nt (nt (nt hn3.ext.size hx7.size) hx12.size) hn14.ext.size
 have me5 := nt (nt (nt (nt me4 hp16.only.size) ux1.size) ux2.size) uy.size
 have me6 := (((hn3.ext.trans hx7).trans hx12).trans hn14.ext).then' hp16.only (by simp) (nt (nt hn3.ext.size hx7.size) hx12.size)
 have me7 := ((me6.trans ux1).trans ux2).then' uy ugA (nt me4 hp16.only.size)
 refine Lg Tryz.underlying37 (hk2.ext ((me7.trans hn18.ext).then' hp20.only (by simp) me5)) ?_
 refine Ly (Y_decneg (Y_stneq (xs := [.int .i64 (k), str p, .int .i64 (m), str tg, .int .i64 (z)]) (ys := [.int .i64 (k), str p, .int .i64 (m), str tg, .int .i64 (z)]) (r := decide (k = k ∧ p = p ∧ m = m ∧ tg = tg ∧ z = z)) (by kernel_rfl) (by kernel_rfl) (by kernel_rfl) rfl rfl (steq (ks := [.i .i64, .s, .i .i64, .s, .i .i64]) (by kernel_rfl) (by simp [eqks, eqk])))) ?_
 refine Ly (Y_pick_f rfl rfl) ?_
 refine Mv ?_
 refine L_known (d := 60) false rfl (by exact decide_eq_false (by simp)) ?_
 refine Mv ?_
 refine Ly (Y_neq rfl rfl) ?_
 refine Ly (Y_pick_f rfl rfl) ?_
 refine Mv ?_
 refine L_known (d := 64) false rfl (by exact decide_eq_false (by simp)) ?_
 refine Mv ?_
 refine L_call (E_call (by kernel_rfl) rfl) (rd_Off (uRA4.ext (hn18.ext.then' hp20.only (by simp) (Nat.le_refl _)))) rfl rfl rfl ?_
 rintro _ h14 ⟨rfl, ux8⟩
 refine Mv ?_
 have me8 := nt (nt (nt hx12.size hn14.ext.size) hp16.only.size) ux1.size
 have me9 := ((hx12.trans hn14.ext).then' hp16.only (by simp) hx12.size).trans ux1
 have me10 := (me9.trans ux2).then' uy ugA (nt (nt hx12.size hn14.ext.size) hp16.only.size)
 have me11 := (me10.trans hn18.ext).then' hp20.only (by simp) (nt (nt me8 ux2.size) uy.size)
 refine Ly (Y_len Tryz.underlying22 rfl (hr06.ext (me11.trans ux8))) ?_
 refine Ly (Y_neq rfl rfl) ?_
 refine Ly (Y_pick_f rfl rfl) ?_
 refine Nx ?_
 refine Wu _ (tk8 70 13 12 11 9 7 6 2) ?_
 refine W_known false rfl (by exact decide_eq_false (by simp)) ?_
 refine Wk (Xt (Wq (Wg ?_)))
 refine Mv ?_
 refine Ly (Y_convs Tryz.underlying45 Tryz.underlying3 rfl (wrap_i64 (by omega) (by omega))) ?_
 refine Mv ?_
 refine Ly (Y_len Tryz.underlying22 rfl (hr06.ext (me11.trans ux8))) ?_
 refine Ly (Y_rem rfl rfl (by omega) (by omega)) ?_
 refine An ?_
 refine Wu _ (tk7 14 13 12 11 9 7 6) ?_
 have me12 := nt (nt (nt (nt hn1.ext.size hn3.ext.size) hx7.size) hx12.size) hn14.ext.size
 have me13 := nt (nt (nt (nt me12 hp16.only.size) ux1.size) ux2.size) uy.size
 have me14 := ((me3.trans ux1).trans ux2).then' uy ugA (nt me12 hp16.only.size)
 have me15 := ((me14.trans hn18.ext).then' hp20.only (by simp) me13).trans ux8
 have hla2 : h.size ≤ (h14).size := (me15 : Ext h h14).size
 have hj : (u % ((eenc k p m tg z).length : Int)).toNat < (eenc k p m tg z).length := by have := Int.emod_lt_of_pos u (show 0 < ((eenc k p m tg z).length : Int) by omega); omega
 have hj0 : 0 ≤ u % ((eenc k p m tg z).length : Int) := Int.emod_nonneg _ (by omega)
 have hcut := dcd_cut e0 hj
 have hjl : ((eenc k p m tg z).take (u % ((eenc k p m tg z).length : Int)).toNat).length ≤ 200000 := by rw [List.length_take]; omega
 refine Wq ?_
 refine W_held (fun _ => True) 14 rfl (by kernel_rfl) ?_
 refine Ht 0 (fun h_ hI_ => Y_move rfl) trivial ?_
 refine Ht 1 (fun h_ hI_ => Y_move rfl) trivial ?_
 refine LH_two (i := 2) (j := 3) (by kernel_rfl) ?_ ?_
 ·have hb22 : Bytes h14 (slcut 1 0 (u % ((eenc k p m tg z).length : Int)).toNat s05) ((eenc k p m tg z).take (u % ((eenc k p m tg z).length : Int)).toNat) := Bytes.cuth (hr06.ext (me11.trans ux8)) (by omega) 
  refine LO_yld (i := 2) rfl (Y_cut_h Tryz.underlying22 (show _ = some 1 by kernel_rfl) rfl (hr06.ext (me11.trans ux8)) rfl (by omega) (by omega)) rfl rfl rfl trivial ?_
  refine LH_one (i := 3) (by kernel_rfl) ?_
  have me16 := ((ux1.trans ux2).then' uy ugA (Nat.le_refl _)).trans hn18.ext
  have me17 := me16.then' hp20.only (by simp) (nt (nt ux1.size ux2.size) uy.size)
  refine LO_yld (i := 3) rfl (Y_ldbox (us := [(.slice a0 n0 c0), .int .i64 (-1)]) Tryz.underlying25 rfl (show _ = some 2 by kernel_rfl) rfl (hk17.ext (me17.trans ux8)) rfl) rfl rfl rfl trivial ?_
  refine LH_one (i := 4) (by kernel_rfl) ?_
  refine LO_call (i := 4) rfl (E_call (by kernel_rfl) rfl) (source_New _ (slcut 1 0 (u % ((eenc k p m tg z).length : Int)).toNat s05) ((eenc k p m tg z).take (u % ((eenc k p m tg z).length : Int)).toNat) hb22 (.slice a0 n0 c0) C (hc.ext (((((((((((hn1.ext.trans hn3.ext).trans hx7).trans hx12).trans hn14.ext).then' hp16.only (by simp) (nt (nt (nt hn1.ext.size hn3.ext.size) hx7.size) hx12.size)).trans ux1).trans ux2).then' uy ugA (nt (nt (nt (nt (nt hn1.ext.size hn3.ext.size) hx7.size) hx12.size) hn14.ext.size) hp16.only.size)).trans hn18.ext).then' hp20.only (by simp) (nt (nt (nt (nt (nt (nt (nt (nt hn1.ext.size hn3.ext.size) hx7.size) hx12.size) hn14.ext.size) hp16.only.size) ux1.size) ux2.size) uy.size)).trans ux8)) (-1) (by omega) (by omega)) rfl rfl rfl ?_
  rintro _ h15 ⟨sB, rfl, uNB, ux3⟩
  refine ⟨trivial, ?_⟩
  refine LH_one (i := 5) (by kernel_rfl) ?_
  refine LO_call (i := 5) rfl (E_call (by kernel_rfl) rfl) (block_NewReader _ _ sB ((eenc k p m tg z).take (u % ((eenc k p m tg z).length : Int)).toNat) (-1) uNB) rfl rfl rfl ?_
  rintro _ h16 ⟨rB, rfl, uRB, ux4⟩
  refine ⟨trivial, ?_⟩
  have ugB : ∀ c ∈ [rB, sB], h14.size ≤ c := fun c hc => uRB.ge2 c hc
  refine LH_one (i := 6) (by kernel_rfl) ?_
  refine LO_call (i := 6) rfl (E_call (by kernel_rfl) rfl) (rt_DecodeN hcut uRB (by omega) h (((((((((((((hn1.ext.trans hn3.ext).trans hx7).trans hx12).trans hn14.ext).then' hp16.only (by simp) (nt (nt (nt hn1.ext.size hn3.ext.size) hx7.size) hx12.size)).trans ux1).trans ux2).then' uy ugA (nt (nt (nt (nt (nt hn1.ext.size hn3.ext.size) hx7.size) hx12.size) hn14.ext.size) hp16.only.size)).trans hn18.ext).then' hp20.only (by simp) (nt (nt (nt (nt (nt (nt (nt (nt hn1.ext.size hn3.ext.size) hx7.size) hx12.size) hn14.ext.size) hp16.only.size) ux1.size) ux2.size) uy.size)).trans ux8).trans ux3).trans ux4) hla2 hG hK hN hE hT hS) rfl rfl rfl ?_
  rintro _ h17 ⟨rfl, uy2, -⟩
  refine ⟨trivial, ?_⟩
  refine Ht 7 (fun h_ hI_ => Y_move rfl) trivial ?_
  refine Ht 8 (fun h_ hI_ => Y_extract (v := .agg #[.int .i64 0, str [], .int .i64 0, str [], .int .i64 0]) rfl rfl) trivial ?_
  refine Ht 9 (fun h_ hI_ => Y_extract (v := .int .i64 ((((u % ((eenc k p m tg z).length : Int)).toNat : Nat) : Int))) rfl rfl) trivial ?_
  refine Ht 10 (fun h_ hI_ => Y_extract (v := .int .i64 ((if (u % ((eenc k p m tg z).length : Int)).toNat = 0 then 4 else 5))) rfl rfl) trivial ?_
  refine LH_one (i := 11) (by kernel_rfl) ?_
  refine LO_dos (i := 11) rfl (D_store (us := [.int .i64 0, str [], .int .i64 0, str [], .int .i64 0]) (show _ = some 5 by kernel_rfl) rfl rfl rfl (by simp [Value.oneCell']) (hk21.ext (((ux8.trans ux3).trans ux4).then' uy2 ugB ux8.size)) (by simp)) rfl rfl ?_
  rintro h18 hp23
  refine ⟨trivial, ?_⟩
  have hk24 : Blk h18 h11.size [.int .i64 0, str [], .int .i64 0, str [], .int .i64 0] := hp23.blk
  refine Ht 12 (fun h_ hI_ => Y_assign rfl) trivial ?_
  refine Ht 13 (fun h_ hI_ => Y_assign rfl) trivial ?_
  refine LH_done (by kernel_rfl) ?_
  refine Xt ?_
  refine Wu _ (tk5 13 12 14 11 6) ?_
  refine Wa ?_
  refine Ln (Xt (Wq (Wq (Wg ?_))))
  refine Mv ?_
  refine Ly (Y_eql rfl rfl) ?_
  refine Nx ?_
  refine W_splitd rfl (fun kz => ?_) (fun kz => ?_)
  ·refine Wg ?_
   refine Av ?_
   refine Ln (Xt (Wq (Wg ?_)))
   have me18 := ((me15.trans ux3).trans ux4).then' uy2 ugB (nt (nt (nt me13 hn18.ext.size) hp20.only.size) ux8.size)
   refine Lc (law12_alive _ (hG.ext (me18.then' hp23.only (by simp) me13)) (hK.ext (me18.then' hp23.only (by simp) me13)) (hN.ext (me18.then' hp23.only (by simp) me13)) (hE.ext (me18.then' hp23.only (by simp) me13)) (hT.ext (me18.then' hp23.only (by simp) me13))) ?_
   rintro _ h19 ⟨rfl, hx25⟩
   refine M2 ?_
   refine Mv ?_
   refine Ly (Y_eql rfl rfl) ?_
   refine Ly (Y_pick_t rfl rfl) ?_
   refine Mv ?_
   refine L_known (d := 95) true rfl (by exact decide_eq_true (by rw [if_pos (by omega)])) ?_
   refine M2 ?_
   refine Ly (Y_eql rfl rfl) ?_
   refine Ly (Y_pick_t rfl rfl) ?_
   refine Mv ?_
   refine L_known (d := 100) true rfl (by exact decide_eq_true (by omega)) ?_
   refine Lg Tryz.underlying37 (hk24.ext hx25) ?_
   refine Ly (Y_build (v := .agg #[.int .i64 0, str [], .int .i64 0, str [], .int .i64 0]) (pv := []) (evp (is := []) (os := []) (vs := []) rfl rfl) (fun _ => by kernel_rfl)) ?_
   refine Ly (Y_steql (xs := [.int .i64 0, str [], .int .i64 0, str [], .int .i64 0]) (ys := [.int .i64 0, str [], .int .i64 0, str [], .int .i64 0]) (r := decide ((0 : Int) = (0 : Int) ∧ ([] : List UInt8) = [] ∧ (0 : Int) = (0 : Int) ∧ ([] : List UInt8) = [] ∧ (0 : Int) = (0 : Int))) (by kernel_rfl) (by kernel_rfl) (by kernel_rfl) rfl rfl (steq (ks := [.i .i64, .s, .i .i64, .s, .i .i64]) (by kernel_rfl) (by simp [eqks, eqk]))) ?_
   refine Ly (Y_pick_t rfl rfl) ?_
   refine An ?_
   refine Wu _ (tk1 6) ?_
   refine Wt ?_
   refine X_ret1 rfl rfl ?_
   exact ⟨rfl, ((me18.then' hp23.only (by simp) me13).trans hx25)⟩
  refine Wk (Xt (Wq (Wg ?_)))
  have me19 := ((me15.trans ux3).trans ux4).then' uy2 ugB (nt (nt (nt me13 hn18.ext.size) hp20.only.size) ux8.size)
  refine Lc (law12_alive _ (hG.ext (me19.then' hp23.only (by simp) me13)) (hK.ext (me19.then' hp23.only (by simp) me13)) (hN.ext (me19.then' hp23.only (by simp) me13)) (hE.ext (me19.then' hp23.only (by simp) me13)) (hT.ext (me19.then' hp23.only (by simp) me13))) ?_
  rintro _ h20 ⟨rfl, hx26⟩
  refine M2 ?_
  refine Mv ?_
  refine Ly (Y_eql rfl rfl) ?_
  refine Ly (Y_pick_t rfl rfl) ?_
  refine Mv ?_
  refine L_known (d := 95) true rfl (by exact decide_eq_true (by rw [if_neg (by omega)])) ?_
  refine M2 ?_
  refine Ly (Y_eql rfl rfl) ?_
  refine Ly (Y_pick_t rfl rfl) ?_
  refine Mv ?_
  refine L_known (d := 100) true rfl (by exact decide_eq_true (by omega)) ?_
  refine Lg Tryz.underlying37 (hk24.ext hx26) ?_
  refine Ly (Y_build (v := .agg #[.int .i64 0, str [], .int .i64 0, str [], .int .i64 0]) (pv := []) (evp (is := []) (os := []) (vs := []) rfl rfl) (fun _ => by kernel_rfl)) ?_
  refine Ly (Y_steql (xs := [.int .i64 0, str [], .int .i64 0, str [], .int .i64 0]) (ys := [.int .i64 0, str [], .int .i64 0, str [], .int .i64 0]) (r := decide ((0 : Int) = (0 : Int) ∧ ([] : List UInt8) = [] ∧ (0 : Int) = (0 : Int) ∧ ([] : List UInt8) = [] ∧ (0 : Int) = (0 : Int))) (by kernel_rfl) (by kernel_rfl) (by kernel_rfl) rfl rfl (steq (ks := [.i .i64, .s, .i .i64, .s, .i .i64]) (by kernel_rfl) (by simp [eqks, eqk]))) ?_
  refine Ly (Y_pick_t rfl rfl) ?_
  refine An ?_
  refine Wu _ (tk1 6) ?_
  refine Wt ?_
  refine X_ret1 rfl rfl ?_
  exact ⟨rfl, ((me19.then' hp23.only (by simp) me13).trans hx26)⟩
 have me20 := ((ux1.trans ux2).then' uy ugA (Nat.le_refl _)).trans hn18.ext
 have me21 := me20.then' hp20.only (by simp) (nt (nt ux1.size ux2.size) uy.size)
 refine LO_yld (i := 3) rfl (Y_ldbox (us := [(.slice a0 n0 c0), .int .i64 (-1)]) Tryz.underlying25 rfl (show _ = some 2 by kernel_rfl) rfl (hk17.ext (me21.trans ux8)) rfl) rfl rfl rfl trivial ?_
 refine LH_one (i := 2) (by kernel_rfl) ?_
 have hb27 : Bytes h14 (slcut 1 0 (u % ((eenc k p m tg z).length : Int)).toNat s05) ((eenc k p m tg z).take (u % ((eenc k p m tg z).length : Int)).toNat) := Bytes.cuth (hr06.ext (me11.trans ux8)) (by omega) 
 refine LO_yld (i := 2) rfl (Y_cut_h Tryz.underlying22 (show _ = some 1 by kernel_rfl) rfl (hr06.ext (me11.trans ux8)) rfl (by omega) (by omega)) rfl rfl rfl trivial ?_
 refine LH_one (i := 4) (by kernel_rfl) ?_
 refine LO_call (i := 4) rfl (E_call (by kernel_rfl) rfl) (source_New _ (slcut 1 0 (u % ((eenc k p m tg z).length : Int)).toNat s05) ((eenc k p m tg z).take (u % ((eenc k p m tg z).length : Int)).toNat) hb27 (.slice a0 n0 c0) C (hc.ext (((((((((((hn1.ext.trans hn3.ext).trans hx7).trans hx12).trans hn14.ext).then' hp16.only (by simp) (nt (nt (nt hn1.ext.size hn3.ext.size) hx7.size) hx12.size)).trans ux1).trans ux2).then' uy ugA (nt (nt (nt (nt (nt hn1.ext.size hn3.ext.size) hx7.size) hx12.size) hn14.ext.size) hp16.only.size)).trans hn18.ext).then' hp20.only (by simp) (nt (nt (nt (nt (nt (nt (nt (nt hn1.ext.size hn3.ext.size) hx7.size) hx12.size) hn14.ext.size) hp16.only.size) ux1.size) ux2.size) uy.size)).trans ux8)) (-1) (by omega) (by omega)) rfl rfl rfl ?_
 rintro _ h21 ⟨sB, rfl, uNB, ux3⟩
 refine ⟨trivial, ?_⟩
 refine LH_one (i := 5) (by kernel_rfl) ?_
 refine LO_call (i := 5) rfl (E_call (by kernel_rfl) rfl) (block_NewReader _ _ sB ((eenc k p m tg z).take (u % ((eenc k p m tg z).length : Int)).toNat) (-1) uNB) rfl rfl rfl ?_
 rintro _ h22 ⟨rB, rfl, uRB, ux4⟩
 refine ⟨trivial, ?_⟩
 have ugB : ∀ c ∈ [rB, sB], h14.size ≤ c := fun c hc => uRB.ge2 c hc
 refine LH_one (i := 6) (by kernel_rfl) ?_
 refine LO_call (i := 6) rfl (E_call (by kernel_rfl) rfl) (rt_DecodeN hcut uRB (by omega) h (((((((((((((hn1.ext.trans hn3.ext).trans hx7).trans hx12).trans hn14.ext).then' hp16.only (by simp) (nt (nt (nt hn1.ext.size hn3.ext.size) hx7.size) hx12.size)).trans ux1).trans ux2).then' uy ugA (nt (nt (nt (nt (nt hn1.ext.size hn3.ext.size) hx7.size) hx12.size) hn14.ext.size) hp16.only.size)).trans hn18.ext).then' hp20.only (by simp) (nt (nt (nt (nt (nt (nt (nt (nt hn1.ext.size hn3.ext.size) hx7.size) hx12.size) hn14.ext.size) hp16.only.size) ux1.size) ux2.size) uy.size)).trans ux8).trans ux3).trans ux4) hla2 hG hK hN hE hT hS) rfl rfl rfl ?_
 rintro _ h23 ⟨rfl, uy2, -⟩
 refine ⟨trivial, ?_⟩
 refine Ht 7 (fun h_ hI_ => Y_move rfl) trivial ?_
 refine Ht 8 (fun h_ hI_ => Y_extract (v := .agg #[.int .i64 0, str [], .int .i64 0, str [], .int .i64 0]) rfl rfl) trivial ?_
 refine Ht 9 (fun h_ hI_ => Y_extract (v := .int .i64 ((((u % ((eenc k p m tg z).length : Int)).toNat : Nat) : Int))) rfl rfl) trivial ?_
 refine Ht 10 (fun h_ hI_ => Y_extract (v := .int .i64 ((if (u % ((eenc k p m tg z).length : Int)).toNat = 0 then 4 else 5))) rfl rfl) trivial ?_
 refine LH_one (i := 11) (by kernel_rfl) ?_
 refine LO_dos (i := 11) rfl (D_store (us := [.int .i64 0, str [], .int .i64 0, str [], .int .i64 0]) (show _ = some 5 by kernel_rfl) rfl rfl rfl (by simp [Value.oneCell']) (hk21.ext (((ux8.trans ux3).trans ux4).then' uy2 ugB ux8.size)) (by simp)) rfl rfl ?_
 rintro h24 hp28
 refine ⟨trivial, ?_⟩
 have hk29 : Blk h24 h11.size [.int .i64 0, str [], .int .i64 0, str [], .int .i64 0] := hp28.blk
 refine Ht 12 (fun h_ hI_ => Y_assign rfl) trivial ?_
 refine Ht 13 (fun h_ hI_ => Y_assign rfl) trivial ?_
 refine LH_done (by kernel_rfl) ?_
 refine Xt ?_
 refine Wu _ (tk5 13 12 14 11 6) ?_
 refine Wa ?_
 refine Ln (Xt (Wq (Wq (Wg ?_))))
 refine Mv ?_
 refine Ly (Y_eql rfl rfl) ?_
 refine Nx ?_
 refine W_splitd rfl (fun kz => ?_) (fun kz => ?_)
 ·refine Wg ?_
  refine Av ?_
  refine Ln (Xt (Wq (Wg ?_)))
  have me22 := ((me15.trans ux3).trans ux4).then' uy2 ugB (nt (nt (nt me13 hn18.ext.size) hp20.only.size) ux8.size)
  refine Lc (law12_alive _ (hG.ext (me22.then' hp28.only (by simp) me13)) (hK.ext (me22.then' hp28.only (by simp) me13)) (hN.ext (me22.then' hp28.only (by simp) me13)) (hE.ext (me22.then' hp28.only (by simp) me13)) (hT.ext (me22.then' hp28.only (by simp) me13))) ?_
  rintro _ h25 ⟨rfl, hx30⟩
  refine M2 ?_
  refine Mv ?_
  refine Ly (Y_eql rfl rfl) ?_
  refine Ly (Y_pick_t rfl rfl) ?_
  refine Mv ?_
  refine L_known (d := 95) true rfl (by exact decide_eq_true (by rw [if_pos (by omega)])) ?_
  refine M2 ?_
  refine Ly (Y_eql rfl rfl) ?_
  refine Ly (Y_pick_t rfl rfl) ?_
  refine Mv ?_
  refine L_known (d := 100) true rfl (by exact decide_eq_true (by omega)) ?_
  refine Lg Tryz.underlying37 (hk29.ext hx30) ?_
  refine Ly (Y_build (v := .agg #[.int .i64 0, str [], .int .i64 0, str [], .int .i64 0]) (pv := []) (evp (is := []) (os := []) (vs := []) rfl rfl) (fun _ => by kernel_rfl)) ?_
  refine Ly (Y_steql (xs := [.int .i64 0, str [], .int .i64 0, str [], .int .i64 0]) (ys := [.int .i64 0, str [], .int .i64 0, str [], .int .i64 0]) (r := decide ((0 : Int) = (0 : Int) ∧ ([] : List UInt8) = [] ∧ (0 : Int) = (0 : Int) ∧ ([] : List UInt8) = [] ∧ (0 : Int) = (0 : Int))) (by kernel_rfl) (by kernel_rfl) (by kernel_rfl) rfl rfl (steq (ks := [.i .i64, .s, .i .i64, .s, .i .i64]) (by kernel_rfl) (by simp [eqks, eqk]))) ?_
  refine Ly (Y_pick_t rfl rfl) ?_
  refine An ?_
  refine Wu _ (tk1 6) ?_
  refine Wt ?_
  refine X_ret1 rfl rfl ?_
  exact ⟨rfl, ((me22.then' hp28.only (by simp) me13).trans hx30)⟩
 refine Wk (Xt (Wq (Wg ?_)))
 have me23 := ((me15.trans ux3).trans ux4).then' uy2 ugB (nt (nt (nt me13 hn18.ext.size) hp20.only.size) ux8.size)
 refine Lc (law12_alive _ (hG.ext (me23.then' hp28.only (by simp) me13)) (hK.ext (me23.then' hp28.only (by simp) me13)) (hN.ext (me23.then' hp28.only (by simp) me13)) (hE.ext (me23.then' hp28.only (by simp) me13)) (hT.ext (me23.then' hp28.only (by simp) me13))) ?_
 rintro _ h26 ⟨rfl, hx31⟩
 refine M2 ?_
 refine Mv ?_
 refine Ly (Y_eql rfl rfl) ?_
 refine Ly (Y_pick_t rfl rfl) ?_
 refine Mv ?_
 refine L_known (d := 95) true rfl (by exact decide_eq_true (by rw [if_neg (by omega)])) ?_
 refine M2 ?_
 refine Ly (Y_eql rfl rfl) ?_
 refine Ly (Y_pick_t rfl rfl) ?_
 refine Mv ?_
 refine L_known (d := 100) true rfl (by exact decide_eq_true (by omega)) ?_
 refine Lg Tryz.underlying37 (hk29.ext hx31) ?_
 refine Ly (Y_build (v := .agg #[.int .i64 0, str [], .int .i64 0, str [], .int .i64 0]) (pv := []) (evp (is := []) (os := []) (vs := []) rfl rfl) (fun _ => by kernel_rfl)) ?_
 refine Ly (Y_steql (xs := [.int .i64 0, str [], .int .i64 0, str [], .int .i64 0]) (ys := [.int .i64 0, str [], .int .i64 0, str [], .int .i64 0]) (r := decide ((0 : Int) = (0 : Int) ∧ ([] : List UInt8) = [] ∧ (0 : Int) = (0 : Int) ∧ ([] : List UInt8) = [] ∧ (0 : Int) = (0 : Int))) (by kernel_rfl) (by kernel_rfl) (by kernel_rfl) rfl rfl (steq (ks := [.i .i64, .s, .i .i64, .s, .i .i64]) (by kernel_rfl) (by simp [eqks, eqk]))) ?_
 refine Ly (Y_pick_t rfl rfl) ?_
 refine An ?_
 refine Wu _ (tk1 6) ?_
 refine Wt ?_
 refine X_ret1 rfl rfl ?_
 exact ⟨rfl, ((me23.then' hp28.only (by simp) me13).trans hx31)⟩
theorem lawEntryRound (h : Heap) (hG : Glb h) (hK : GlbK h) (hN : GlbN h) (hE : GlbE h) (hT : GlbT h) (hS : GlbS h) (k : Int) (p : List UInt8) (m : Int) (tg : List UInt8) (z : Int) (vc : Value) (C : List Int) (hc : Rows intS h vc C) (f : Int) (u : Int) (hk : -9223372036854775808 ≤ k ∧ k ≤ 9223372036854775807) (hp : p.length ≤ 140737488355328) (hm : -9223372036854775808 ≤ m ∧ m ≤ 9223372036854775807) (ht : tg.length ≤ 140737488355328) (hz : -9223372036854775808 ≤ z ∧ z ≤ 9223372036854775807) (hC : C.length ≤ 140737488355328) (hf : -9223372036854775808 ≤ f ∧ f ≤ 9223372036854775807) (hu : 0 ≤ u ∧ u ≤ 65535) :
    Cal Tryz.prog 4 #[.agg #[.int .i64 k, str p, .int .i64 m, str tg, .int .i64 z], .agg #[vc, .int .i64 f], .int .u16 u] h (fun v h' => v = .bool true ∧ Ext h h') := by
  obtain ⟨a0, n0, c0, rfl⟩ := row_formN hc
  exact lawEntryRoundS h hG hK hN hE hT hS k p m tg z a0 n0 c0 C hc f u hk hp hm ht hz hC hf hu
end Go.Xp
