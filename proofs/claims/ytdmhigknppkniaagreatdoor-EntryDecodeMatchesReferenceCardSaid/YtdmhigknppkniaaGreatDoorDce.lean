/- The reference of layer 12 (entry): Decode. -/
import Derived.Test.YtdmhigknppkniaaGreatDoorDcb
import Derived.Test.YtdmhigknppkniaaGreatDoorDch
set_option linter.unusedSimpArgs false
set_option linter.unusedVariables false
set_option linter.unusedSectionVars false
set_option maxRecDepth 100000
namespace Go.Xp
open Go.Proofs

section
variable {h : Heap} {lo hi r s : Nat} {D : List UInt8} {f : Int} {p : Nat} {b : List UInt8}
theorem ref_recN (uR : RdB lo hi h r s D f (p + 512) 0) (hl : D.length ≤ 100000000000) (hf : -9223372036854775808 ≤ f ∧ f ≤ 9223372036854775807) (e : ¬ (dcr D f p b).e = 0) :
    Cal Tryz.prog 29 #[.pointer (some ⟨r, 0, none⟩), .agg #[.int .u8 (udT b), str (udN b), str (udP b), str (udL b), .int .i64 (udM b), .int .i64 (udS b)], .int .i64 (p : Int)] h (fun v h' => ∃ lv, v = .tuple #[lv, .int .i64 (dcr D f p b).n, .int .i64 (dcr D f p b).e] ∧ Only [r, s] h h' ∧ RdB lo hi h' r s D f (dcr D f p b).pos (dcr D f p b).er) :=
  (ref12_records h lo hi r s D f p uR b hl hf).mono fun v h' ⟨lv, q1, q2, q3, q4⟩ => ⟨lv, by rw [q1, if_neg e], q2, q3⟩
theorem ref_recY (uR : RdB lo hi h r s D f (p + 512) 0) (hl : D.length ≤ 100000000000) (hf : -9223372036854775808 ≤ f ∧ f ≤ 9223372036854775807) (e : (dcr D f p b).e = 0) :
    Cal Tryz.prog 29 #[.pointer (some ⟨r, 0, none⟩), .agg #[.int .u8 (udT b), str (udN b), str (udP b), str (udL b), .int .i64 (udM b), .int .i64 (udS b)], .int .i64 (p : Int)] h (fun v h' => ∃ lv, v = .tuple #[lv, .int .i64 0, .int .i64 0] ∧ Only [r, s] h h' ∧ RdB lo hi h' r s D f (dq p b) 0 ∧ RowsO recS h' h.size lv (dl D p b).1) :=
  (ref12_records h lo hi r s D f p uR b hl hf).mono fun v h' ⟨lv, q1, q2, q3, q4⟩ => by
    obtain ⟨k1, k2, k3, -, -, -⟩ := dcr_ok e
    rw [k2, k3] at q3
    exact ⟨lv, by rw [q1, if_pos e, e], q2, q3, q4 e⟩
end
theorem ref12_Decode (h : Heap) (lo hi r s : Nat) (D : List UInt8) (f : Int) (p : Nat) (er : Int) (uR : RdB lo hi h r s D f p er) (hb : Blk h r [.pointer (some ⟨s, 0, none⟩), .int .i64 (p : Int), .int .i64 er]) (hl : D.length ≤ 100000000000) (hf : -9223372036854775808 ≤ f ∧ f ≤ 9223372036854775807) : Cal Tryz.prog 12 #[.pointer (some ⟨r, 0, none⟩)] h (fun v h' => v = dout (dcd D f p er) ∧ Only [r, s] h h' ∧ RdB lo hi h' r s D f (dcd D f p er).pos (dcd D f p er).er) := by
 have hp := uR.src.le
 refine Ce Tryz.func12 fun σ => ?_
 refine Wr ?_
 refine L_mks (M_alloc (u := .agg #[.int .i64 0, str [], .int .i64 0, str [], .int .i64 0]) (by kernel_rfl)) rfl rfl rfl ?_
 rintro _ h1 ⟨rfl, hn1⟩
 have hk2 : Blk h1 h.size [.int .i64 0, str [], .int .i64 0, str [], .int .i64 0] := hn1.blk
 refine A2 ?_
 refine Ln (Xt (Wq (Wg ?_)))
 refine Mv ?_
 refine Ly (Y_nilCheck rfl) ?_
 refine Lf 1 ?_
 refine Lb Tryz.underlying2 (hb.ext hn1.ext) ?_
 refine Av ?_
 refine Ln (Xt (Wq ?_))
 by_cases e0 : nE D f p er = 0
 ·refine Wg ?_
  refine Mv ?_
  refine Lc (rdb_NextO (uR.ext hn1.ext) e0 hl hf) ?_
  rintro _ h2 ⟨uvx, rfl, uLx, uy, uRx⟩
  have hbx := uRx.blk
  refine Mx ?_
  refine A2 ?_
  refine Nx ?_
  refine Wu _ (tk7 7 6 5 4 3 2 0) ?_
  refine Wq (Wq (Wg ?_))
  refine Mv ?_
  refine Ly Yne ?_
  refine Nx ?_
  refine W_known false rfl (by first | rfl | decide | simp) ?_
  refine Ws ?_
  have hlnB : (nB D p).length ≤ 512 := by unfold nB; rw [List.length_take]; omega
  refine Wq (Wq (Wg ?_))
  refine Mv ?_
  refine Lc (ref12_IsZero _ uvx (nB D p) uLx.bytes (by first | omega | rfl | (simp <;> omega))) ?_
  rintro _ h2 ⟨rfl, rfl⟩
  refine Nx ?_
  refine Sd (fun z => ?_) fun z => ?_
  ·refine Wr ?_
   refine Ly (Yb (.agg #[.int .i64 0, str [], .int .i64 0, str [], .int .i64 0]) [] [] []) ?_
   refine Mv ?_
   have hc3 := (hk2.only uy (fun hb_ => Nat.lt_irrefl _ (ntl (uR.lt2 _ hb_) (Nat.le_refl _))))
   refine Lds [.int .i64 0, str [], .int .i64 0, str [], .int .i64 0] hc3 ?_
   rintro h3 hp4
   have hk5 : Blk h3 h.size [.int .i64 0, str [], .int .i64 0, str [], .int .i64 0] := hp4.blk
   refine A2 ?_
   refine Nx ?_
   refine Wu _ (tk7 4 3 7 6 5 2 0) ?_
   refine Wt (Xr ?_)
   refine X_retv3 rfl (RVa Tryz.underlying37 hk5) rfl rfl ?_
   have hx := dcd_z e0 z
   exact ⟨by rw [hx]; rfl, (Only.trans (Only.trans (Only.trans (Only.refl _ _) hn1.ext (fun _ hb_ => by cases hb_)) uy (fun b_ hb_ => .inl (by simp only [List.mem_cons, List.not_mem_nil, or_false] at hb_ ⊢; omega))) hp4.only (fun b_ hb_ => .inr (by rw [List.mem_singleton.1 hb_]; exact (Nat.le_refl _)))), by rw [hx]; exact (uRx.out hp4.only (fun c_ hc_ => .inr (by rw [List.mem_singleton.1 hc_]; exact (nt uR.hle (Nat.le_refl _)))))⟩
  refine Wk (Xt (Wq (Wg ?_)))
  refine Mv ?_
  refine Lc (ref07_Decode _ uvx (nB D p) uLx.bytes (by first | omega | rfl | (simp <;> omega))) ?_
  rintro _ h4 ⟨rfl, hx6⟩
  refine Mx ?_
  refine L_mks (M_alloc (u := .agg #[.int .u8 0, str [], str [], str [], .int .i64 0, .int .i64 0]) (by kernel_rfl)) rfl rfl rfl ?_
  rintro _ h5 ⟨rfl, hn7⟩
  have hk8 : Blk h5 h4.size [.int .u8 0, str [], str [], str [], .int .i64 0, .int .i64 0] := hn7.blk
  refine Lds [.int .u8 (udT (nB D p)), str (udN (nB D p)), str (udP (nB D p)), str (udL (nB D p)), .int .i64 (udM (nB D p)), .int .i64 (udS (nB D p))] hk8 ?_
  rintro h6 hp9
  have hk10 : Blk h6 h4.size [.int .u8 (udT (nB D p)), str (udN (nB D p)), str (udP (nB D p)), str (udL (nB D p)), .int .i64 (udM (nB D p)), .int .i64 (udS (nB D p))] := hp9.blk
  refine An ?_
  refine Wu _ (tk8 7 8 6 5 4 3 2 0) ?_
  refine Wq (Wq (Wg ?_))
  refine Mv ?_
  refine Ly Yne ?_
  refine Nx ?_
  refine Sd (fun u => ?_) fun u => ?_
  ·refine Wr ?_
   refine Ly (Yb (.agg #[.int .i64 0, str [], .int .i64 0, str [], .int .i64 0]) [] [] []) ?_
   refine M2 ?_
   have hc11 := ((((hk2.only uy (fun hb_ => Nat.lt_irrefl _ (ntl (uR.lt2 _ hb_) (Nat.le_refl _)))).ext hx6).ext hn7.ext).only hp9.only (ni_lt (ntl hk2.lt (nt uy.size hx6.size))))
   refine Lds [.int .i64 0, str [], .int .i64 0, str [], .int .i64 0] hc11 ?_
   rintro h7 hp12
   have hk13 : Blk h7 h.size [.int .i64 0, str [], .int .i64 0, str [], .int .i64 0] := hp12.blk
   refine A2 ?_
   refine Ln (Xt (Wt (Xr ?_)))
   refine X_retv3 rfl (RVa Tryz.underlying37 hk13) rfl rfl ?_
   have hx := dcd_u e0 z u
   exact ⟨by rw [hx]; rfl, (Only.trans (Only.trans (Only.trans (Only.trans (Only.trans (Only.trans (Only.refl _ _) hn1.ext (fun _ hb_ => by cases hb_)) uy (fun b_ hb_ => .inl (by simp only [List.mem_cons, List.not_mem_nil, or_false] at hb_ ⊢; omega))) hx6 (fun _ hb_ => by cases hb_)) hn7.ext (fun _ hb_ => by cases hb_)) hp9.only (fun b_ hb_ => .inr (by rw [List.mem_singleton.1 hb_]; exact (nt (nt hn1.ext.size uy.size) hx6.size)))) hp12.only (fun b_ hb_ => .inr (by rw [List.mem_singleton.1 hb_]; exact (Nat.le_refl _)))), by rw [hx]; exact ((uRx.ext ((hx6.trans hn7.ext).then' hp9.only (by simp) hx6.size)).out hp12.only (fun c_ hc_ => .inr (by rw [List.mem_singleton.1 hc_]; exact (nt uR.hle (Nat.le_refl _)))))⟩
  refine Wk (Xt (Wq (Wg ?_)))
  refine Mv ?_
  refine Av ?_
  refine Ln (Xt (Wq (Wg ?_)))
  refine Av ?_
  refine Ln (Xt (Wq (Wq (Wg ?_))))
  refine Lf 0 ?_
  refine Lb Tryz.underlying5 hk10 ?_
  refine Ly Yeq ?_
  refine Nx ?_
  refine Sd (fun t => ?_) fun t => ?_
  ·refine Wq ?_
   by_cases eR : (dcr D f p (nB D p)).e = 0
   ·refine Wg ?_
    refine Mv ?_
    refine Lg Tryz.underlying82 hk10 ?_
    refine Mv ?_
    refine L_call (E_call (by kernel_rfl) rfl) (ref_recY (uRx.ext ((hx6.trans hn7.ext).then' hp9.only (by simp) hx6.size)) hl hf eR) rfl rfl rfl ?_
    rintro _ h8 ⟨lv, rfl, uy1, uRr, hlv⟩
    have hbr := uRr.blk
    refine Mx ?_
    refine Lx ?_
    refine A2 ?_
    refine An ?_
    refine Wu _ (sk5 13 12 11 10 9 rfl rfl rfl rfl rfl (tk8 7 8 6 5 4 3 2 0)) ?_
    refine Wq (Wq (Wg ?_))
    refine Mv ?_
    refine Ly Yne ?_
    refine Nx ?_
    refine W_known false rfl (by first | rfl | decide | simp) ?_
    refine Wk (Xt (Wq (Wg ?_)))
    refine Mv ?_
    refine An ?_
    refine Wu _ (sk2 10 9 rfl rfl (tk8 7 8 6 5 4 3 2 0)) ?_
    refine Wm ?_
    refine Ly (Y_nilCheck rfl) ?_
    refine Lf 1 ?_
    refine Lb Tryz.underlying2 hbr ?_
    refine Av ?_
    refine Ln (Xt (Wq ?_))
    by_cases eH : nE D f (dq p (nB D p)) 0 = 0
    ·refine Wg ?_
     refine Mv ?_
     refine Lc (rdb_NextO uRr eH hl hf) ?_
     rintro _ h9 ⟨uvz, rfl, uLz, uy3, uRh⟩
     have hbh := uRh.blk
     refine Mx ?_
     refine A2 ?_
     refine Nx ?_
     refine Wu _ (sk2 7 6 rfl rfl (tk8 9 10 8 5 4 3 2 0)) ?_
     refine Wq (Wq (Wg ?_))
     refine Mv ?_
     refine Ly Yeq ?_
     refine Nx ?_
     refine W_known false rfl (by first | rfl | decide | simp) ?_
     refine Wk (Xt (Wq (Wq (Wg ?_))))
     refine Mv ?_
     refine Ly Yne ?_
     refine Nx ?_
     refine W_known false rfl (by first | rfl | decide | simp) ?_
     refine Ws ?_
     have hlnC : (nB D (dq p (nB D p))).length ≤ 512 := by unfold nB; rw [List.length_take]; omega
     refine Wm ?_
     refine Lc (ref07_Decode _ uvz (nB D (dq p (nB D p))) uLz.bytes (by first | omega | rfl | (simp <;> omega))) ?_
     rintro _ h10 ⟨rfl, hx14⟩
     refine Mx ?_
     have hc15 := (((hk10.only uy1 (fun hb_ => Nat.lt_irrefl _ (ntl (uR.lt2 _ hb_) (nt (nt hn1.ext.size uy.size) hx6.size)))).only uy3 (fun hb_ => Nat.lt_irrefl _ (ntl (uR.lt2 _ hb_) (nt (nt hn1.ext.size uy.size) hx6.size)))).ext hx14)
     refine Lds [.int .u8 (udT (nB D (dq p (nB D p)))), str (udN (nB D (dq p (nB D p)))), str (udP (nB D (dq p (nB D p)))), str (udL (nB D (dq p (nB D p)))), .int .i64 (udM (nB D (dq p (nB D p)))), .int .i64 (udS (nB D (dq p (nB D p))))] hc15 ?_
     rintro h11 hp16
     have hk17 : Blk h11 h4.size [.int .u8 (udT (nB D (dq p (nB D p)))), str (udN (nB D (dq p (nB D p)))), str (udP (nB D (dq p (nB D p)))), str (udL (nB D (dq p (nB D p)))), .int .i64 (udM (nB D (dq p (nB D p)))), .int .i64 (udS (nB D (dq p (nB D p))))] := hp16.blk
     refine An ?_
     refine Wu _ (tk8 7 9 10 8 5 4 3 2) ?_
     refine Wm ?_
     refine Ly Yne ?_
     refine Nx ?_
     refine Sd (fun u2 => ?_) fun u2 => ?_
     ·refine Wr ?_
      refine Ly (Yb (.agg #[.int .i64 0, str [], .int .i64 0, str [], .int .i64 0]) [] [] []) ?_
      refine M2 ?_
      have hc18 := ((((((((hk2.only uy (fun hb_ => Nat.lt_irrefl _ (ntl (uR.lt2 _ hb_) (Nat.le_refl _)))).ext hx6).ext hn7.ext).only hp9.only (ni_lt (ntl hk2.lt (nt uy.size hx6.size)))).only uy1 (fun hb_ => Nat.lt_irrefl _ (ntl (uR.lt2 _ hb_) (Nat.le_refl _)))).only uy3 (fun hb_ => Nat.lt_irrefl _ (ntl (uR.lt2 _ hb_) (Nat.le_refl _)))).ext hx14).only hp16.only (ni_lt (ntl hk2.lt (nt uy.size hx6.size))))
      refine Lds [.int .i64 0, str [], .int .i64 0, str [], .int .i64 0] hc18 ?_
      rintro h12 hp19
      have hk20 : Blk h12 h.size [.int .i64 0, str [], .int .i64 0, str [], .int .i64 0] := hp19.blk
      refine A2 ?_
      refine Ln (Xt (Wt (Xr ?_)))
      refine X_retv3 rfl (RVa Tryz.underlying37 hk20) rfl rfl ?_
      have hx := (dcd_x e0 z u t).trans (dcx_u eR eH u2)
      exact ⟨by rw [hx]; rfl, (Only.trans (Only.trans (Only.trans (Only.trans (Only.trans (Only.trans (Only.trans (Only.trans (Only.trans (Only.trans (Only.refl _ _) hn1.ext (fun _ hb_ => by cases hb_)) uy (fun b_ hb_ => .inl (by simp only [List.mem_cons, List.not_mem_nil, or_false] at hb_ ⊢; omega))) hx6 (fun _ hb_ => by cases hb_)) hn7.ext (fun _ hb_ => by cases hb_)) hp9.only (fun b_ hb_ => .inr (by rw [List.mem_singleton.1 hb_]; exact (nt (nt hn1.ext.size uy.size) hx6.size)))) uy1 (fun b_ hb_ => .inl (by simp only [List.mem_cons, List.not_mem_nil, or_false] at hb_ ⊢; omega))) uy3 (fun b_ hb_ => .inl (by simp only [List.mem_cons, List.not_mem_nil, or_false] at hb_ ⊢; omega))) hx14 (fun _ hb_ => by cases hb_)) hp16.only (fun b_ hb_ => .inr (by rw [List.mem_singleton.1 hb_]; exact (nt (nt hn1.ext.size uy.size) hx6.size)))) hp19.only (fun b_ hb_ => .inr (by rw [List.mem_singleton.1 hb_]; exact (Nat.le_refl _)))), by rw [hx]; exact (((uRh.ext hx14).out hp16.only (fun c_ hc_ => .inr (by rw [List.mem_singleton.1 hc_]; exact (nt uR.hle (nt (nt hn1.ext.size uy.size) hx6.size))))).out hp19.only (fun c_ hc_ => .inr (by rw [List.mem_singleton.1 hc_]; exact (nt uR.hle (Nat.le_refl _)))))⟩
     refine Ws ?_
     have hU := ud_lens (nB D (dq p (nB D p)))
     have hUS := udS_rng (nB D (dq p (nB D p)))
     have hlb := dl_bnd (D := D) (p := p) (dcr_ok eR).1
     refine Wr ?_
     refine Lg Tryz.underlying82 hk17 ?_
     refine Mv ?_
     have me1 := nt (nt (nt (nt hn1.ext.size uy.size) hx6.size) hn7.ext.size) hp9.only.size
     refine Lc (ref10_Merge _ (udT (nB D (dq p (nB D p)))) (udN (nB D (dq p (nB D p)))) (udP (nB D (dq p (nB D p)))) (udL (nB D (dq p (nB D p)))) (udM (nB D (dq p (nB D p)))) (udS (nB D (dq p (nB D p)))) lv ((dl D p (nB D p)).1) ((((RowsO.onlyL hlv nsRec uy3 (fun b_ hM_ => ntl (uR.lt2 _ hM_) me1)).ext hx14).only1 nsRec hp16.only (ntl hk8.lt hp9.only.size)).rows) (udT_rng _) (by omega) (by omega) (by omega) (by omega) (fun r_ hr_ => by have := hlb.2 r_ hr_; omega)) ?_
     rintro _ h13 ⟨rfl, hx21⟩
     refine Mx ?_
     refine L_mks (M_alloc (u := .agg #[.int .i64 0, str [], .int .i64 0, str [], .int .i64 0]) (by kernel_rfl)) rfl rfl rfl ?_
     rintro _ h14 ⟨rfl, hn22⟩
     have hk23 : Blk h14 h13.size [.int .i64 0, str [], .int .i64 0, str [], .int .i64 0] := hn22.blk
     refine Lds [.int .i64 (oI (mres (udT (nB D (dq p (nB D p)))) (udN (nB D (dq p (nB D p)))) (udP (nB D (dq p (nB D p)))) (udL (nB D (dq p (nB D p)))) (udM (nB D (dq p (nB D p)))) (udS (nB D (dq p (nB D p)))) ((dl D p (nB D p)).1)) (mkind (udT (nB D (dq p (nB D p)))))), str (oP (mres (udT (nB D (dq p (nB D p)))) (udN (nB D (dq p (nB D p)))) (udP (nB D (dq p (nB D p)))) (udL (nB D (dq p (nB D p)))) (udM (nB D (dq p (nB D p)))) (udS (nB D (dq p (nB D p)))) ((dl D p (nB D p)).1))), .int .i64 (oI (mres (udT (nB D (dq p (nB D p)))) (udN (nB D (dq p (nB D p)))) (udP (nB D (dq p (nB D p)))) (udL (nB D (dq p (nB D p)))) (udM (nB D (dq p (nB D p)))) (udS (nB D (dq p (nB D p)))) ((dl D p (nB D p)).1)) (udM (nB D (dq p (nB D p))))), str (oT (mres (udT (nB D (dq p (nB D p)))) (udN (nB D (dq p (nB D p)))) (udP (nB D (dq p (nB D p)))) (udL (nB D (dq p (nB D p)))) (udM (nB D (dq p (nB D p)))) (udS (nB D (dq p (nB D p)))) ((dl D p (nB D p)).1))), .int .i64 (oZ (mres (udT (nB D (dq p (nB D p)))) (udN (nB D (dq p (nB D p)))) (udP (nB D (dq p (nB D p)))) (udL (nB D (dq p (nB D p)))) (udM (nB D (dq p (nB D p)))) (udS (nB D (dq p (nB D p)))) ((dl D p (nB D p)).1)))] hk23 ?_
     rintro h15 hp24
     have hk25 : Blk h15 h13.size [.int .i64 (oI (mres (udT (nB D (dq p (nB D p)))) (udN (nB D (dq p (nB D p)))) (udP (nB D (dq p (nB D p)))) (udL (nB D (dq p (nB D p)))) (udM (nB D (dq p (nB D p)))) (udS (nB D (dq p (nB D p)))) ((dl D p (nB D p)).1)) (mkind (udT (nB D (dq p (nB D p)))))), str (oP (mres (udT (nB D (dq p (nB D p)))) (udN (nB D (dq p (nB D p)))) (udP (nB D (dq p (nB D p)))) (udL (nB D (dq p (nB D p)))) (udM (nB D (dq p (nB D p)))) (udS (nB D (dq p (nB D p)))) ((dl D p (nB D p)).1))), .int .i64 (oI (mres (udT (nB D (dq p (nB D p)))) (udN (nB D (dq p (nB D p)))) (udP (nB D (dq p (nB D p)))) (udL (nB D (dq p (nB D p)))) (udM (nB D (dq p (nB D p)))) (udS (nB D (dq p (nB D p)))) ((dl D p (nB D p)).1)) (udM (nB D (dq p (nB D p))))), str (oT (mres (udT (nB D (dq p (nB D p)))) (udN (nB D (dq p (nB D p)))) (udP (nB D (dq p (nB D p)))) (udL (nB D (dq p (nB D p)))) (udM (nB D (dq p (nB D p)))) (udS (nB D (dq p (nB D p)))) ((dl D p (nB D p)).1))), .int .i64 (oZ (mres (udT (nB D (dq p (nB D p)))) (udN (nB D (dq p (nB D p)))) (udP (nB D (dq p (nB D p)))) (udL (nB D (dq p (nB D p)))) (udM (nB D (dq p (nB D p)))) (udS (nB D (dq p (nB D p)))) ((dl D p (nB D p)).1)))] := hp24.blk
     refine An ?_
     refine Wu _ (tk7 7 14 9 5 4 3 2) ?_
     refine Wq (Wq (Wg ?_))
     refine Mv ?_
     refine Ly Yne ?_
     refine Nx ?_
     refine Sd (fun w => ?_) fun w => ?_
     ·refine Wr ?_
      refine Ly (Yb (.agg #[.int .i64 0, str [], .int .i64 0, str [], .int .i64 0]) [] [] []) ?_
      refine M2 ?_
      have me2 := nt (nt (nt (nt uy.size hx6.size) hn7.ext.size) hp9.only.size) uy1.size
      have me3 := nt (nt (nt (nt me2 uy3.size) hx14.size) hp16.only.size) hx21.size
      have hc26 := (((((((((((hk2.only uy (fun hb_ => Nat.lt_irrefl _ (ntl (uR.lt2 _ hb_) (Nat.le_refl _)))).ext hx6).ext hn7.ext).only hp9.only (ni_lt (ntl hk2.lt (nt uy.size hx6.size)))).only uy1 (fun hb_ => Nat.lt_irrefl _ (ntl (uR.lt2 _ hb_) (Nat.le_refl _)))).only uy3 (fun hb_ => Nat.lt_irrefl _ (ntl (uR.lt2 _ hb_) (Nat.le_refl _)))).ext hx14).only hp16.only (ni_lt (ntl hk2.lt (nt uy.size hx6.size)))).ext hx21).ext hn22.ext).only hp24.only (ni_lt (ntl hk2.lt me3)))
      refine Lds [.int .i64 0, str [], .int .i64 0, str [], .int .i64 0] hc26 ?_
      rintro h16 hp27
      have hk28 : Blk h16 h.size [.int .i64 0, str [], .int .i64 0, str [], .int .i64 0] := hp27.blk
      refine A2 ?_
      refine Nx ?_
      refine Wu _ (tk5 4 3 14 5 2) ?_
      refine Wt (Xr ?_)
      refine X_retv3 rfl (RVa Tryz.underlying37 hk28) rfl rfl ?_
      have hx := ((dcd_x e0 z u t).trans (dcx_m eR eH u2)).trans (dcm_n w)
      have me4 := nt (nt (nt (nt me1 uy1.size) uy3.size) hx14.size) hp16.only.size
      exact ⟨by rw [hx]; rfl, (Only.trans (Only.trans (Only.trans (Only.trans (Only.trans (Only.trans (Only.trans (Only.trans (Only.trans (Only.trans (Only.trans (Only.trans (Only.trans (Only.refl _ _) hn1.ext (fun _ hb_ => by cases hb_)) uy (fun b_ hb_ => .inl (by simp only [List.mem_cons, List.not_mem_nil, or_false] at hb_ ⊢; omega))) hx6 (fun _ hb_ => by cases hb_)) hn7.ext (fun _ hb_ => by cases hb_)) hp9.only (fun b_ hb_ => .inr (by rw [List.mem_singleton.1 hb_]; exact (nt (nt hn1.ext.size uy.size) hx6.size)))) uy1 (fun b_ hb_ => .inl (by simp only [List.mem_cons, List.not_mem_nil, or_false] at hb_ ⊢; omega))) uy3 (fun b_ hb_ => .inl (by simp only [List.mem_cons, List.not_mem_nil, or_false] at hb_ ⊢; omega))) hx14 (fun _ hb_ => by cases hb_)) hp16.only (fun b_ hb_ => .inr (by rw [List.mem_singleton.1 hb_]; exact (nt (nt hn1.ext.size uy.size) hx6.size)))) hx21 (fun _ hb_ => by cases hb_)) hn22.ext (fun _ hb_ => by cases hb_)) hp24.only (fun b_ hb_ => .inr (by rw [List.mem_singleton.1 hb_]; exact (nt me4 hx21.size)))) hp27.only (fun b_ hb_ => .inr (by rw [List.mem_singleton.1 hb_]; exact (Nat.le_refl _)))), by rw [hx]; exact ((((uRh.ext hx14).out hp16.only (fun c_ hc_ => .inr (by rw [List.mem_singleton.1 hc_]; exact (nt uR.hle (nt (nt hn1.ext.size uy.size) hx6.size))))).ext ((hx21.trans hn22.ext).then' hp24.only (by simp) hx21.size)).out hp27.only (fun c_ hc_ => .inr (by rw [List.mem_singleton.1 hc_]; exact (nt uR.hle (Nat.le_refl _)))))⟩
     refine Wk (Xt (Wq (Wg ?_)))
     refine Lg Tryz.underlying37 hk25 ?_
     refine Mv ?_
     have me5 := nt (nt (nt (nt uy.size hx6.size) hn7.ext.size) hp9.only.size) uy1.size
     have me6 := nt (nt (nt (nt me5 uy3.size) hx14.size) hp16.only.size) hx21.size
     have hc29 := (((((((((((hk2.only uy (fun hb_ => Nat.lt_irrefl _ (ntl (uR.lt2 _ hb_) (Nat.le_refl _)))).ext hx6).ext hn7.ext).only hp9.only (ni_lt (ntl hk2.lt (nt uy.size hx6.size)))).only uy1 (fun hb_ => Nat.lt_irrefl _ (ntl (uR.lt2 _ hb_) (Nat.le_refl _)))).only uy3 (fun hb_ => Nat.lt_irrefl _ (ntl (uR.lt2 _ hb_) (Nat.le_refl _)))).ext hx14).only hp16.only (ni_lt (ntl hk2.lt (nt uy.size hx6.size)))).ext hx21).ext hn22.ext).only hp24.only (ni_lt (ntl hk2.lt me6)))
     refine Lds [.int .i64 (oI (mres (udT (nB D (dq p (nB D p)))) (udN (nB D (dq p (nB D p)))) (udP (nB D (dq p (nB D p)))) (udL (nB D (dq p (nB D p)))) (udM (nB D (dq p (nB D p)))) (udS (nB D (dq p (nB D p)))) ((dl D p (nB D p)).1)) (mkind (udT (nB D (dq p (nB D p)))))), str (oP (mres (udT (nB D (dq p (nB D p)))) (udN (nB D (dq p (nB D p)))) (udP (nB D (dq p (nB D p)))) (udL (nB D (dq p (nB D p)))) (udM (nB D (dq p (nB D p)))) (udS (nB D (dq p (nB D p)))) ((dl D p (nB D p)).1))), .int .i64 (oI (mres (udT (nB D (dq p (nB D p)))) (udN (nB D (dq p (nB D p)))) (udP (nB D (dq p (nB D p)))) (udL (nB D (dq p (nB D p)))) (udM (nB D (dq p (nB D p)))) (udS (nB D (dq p (nB D p)))) ((dl D p (nB D p)).1)) (udM (nB D (dq p (nB D p))))), str (oT (mres (udT (nB D (dq p (nB D p)))) (udN (nB D (dq p (nB D p)))) (udP (nB D (dq p (nB D p)))) (udL (nB D (dq p (nB D p)))) (udM (nB D (dq p (nB D p)))) (udS (nB D (dq p (nB D p)))) ((dl D p (nB D p)).1))), .int .i64 (oZ (mres (udT (nB D (dq p (nB D p)))) (udN (nB D (dq p (nB D p)))) (udP (nB D (dq p (nB D p)))) (udL (nB D (dq p (nB D p)))) (udM (nB D (dq p (nB D p)))) (udS (nB D (dq p (nB D p)))) ((dl D p (nB D p)).1)))] hc29 ?_
     rintro h17 hp30
     have hk31 : Blk h17 h.size [.int .i64 (oI (mres (udT (nB D (dq p (nB D p)))) (udN (nB D (dq p (nB D p)))) (udP (nB D (dq p (nB D p)))) (udL (nB D (dq p (nB D p)))) (udM (nB D (dq p (nB D p)))) (udS (nB D (dq p (nB D p)))) ((dl D p (nB D p)).1)) (mkind (udT (nB D (dq p (nB D p)))))), str (oP (mres (udT (nB D (dq p (nB D p)))) (udN (nB D (dq p (nB D p)))) (udP (nB D (dq p (nB D p)))) (udL (nB D (dq p (nB D p)))) (udM (nB D (dq p (nB D p)))) (udS (nB D (dq p (nB D p)))) ((dl D p (nB D p)).1))), .int .i64 (oI (mres (udT (nB D (dq p (nB D p)))) (udN (nB D (dq p (nB D p)))) (udP (nB D (dq p (nB D p)))) (udL (nB D (dq p (nB D p)))) (udM (nB D (dq p (nB D p)))) (udS (nB D (dq p (nB D p)))) ((dl D p (nB D p)).1)) (udM (nB D (dq p (nB D p))))), str (oT (mres (udT (nB D (dq p (nB D p)))) (udN (nB D (dq p (nB D p)))) (udP (nB D (dq p (nB D p)))) (udL (nB D (dq p (nB D p)))) (udM (nB D (dq p (nB D p)))) (udS (nB D (dq p (nB D p)))) ((dl D p (nB D p)).1))), .int .i64 (oZ (mres (udT (nB D (dq p (nB D p)))) (udN (nB D (dq p (nB D p)))) (udP (nB D (dq p (nB D p)))) (udL (nB D (dq p (nB D p)))) (udM (nB D (dq p (nB D p)))) (udS (nB D (dq p (nB D p)))) ((dl D p (nB D p)).1)))] := hp30.blk
     refine A2 ?_
     refine Nx ?_
     refine Wu _ (tk3 4 3 2) ?_
     refine Wt ?_
     refine X_retv3 rfl (RVa Tryz.underlying37 hk31) rfl rfl ?_
     have hx := ((dcd_x e0 z u t).trans (dcx_m eR eH u2)).trans (dcm_y w)
     have me7 := nt (nt (nt (nt me1 uy1.size) uy3.size) hx14.size) hp16.only.size
     exact ⟨by rw [hx]; rfl, (Only.trans (Only.trans (Only.trans (Only.trans (Only.trans (Only.trans (Only.trans (Only.trans (Only.trans (Only.trans (Only.trans (Only.trans (Only.trans (Only.refl _ _) hn1.ext (fun _ hb_ => by cases hb_)) uy (fun b_ hb_ => .inl (by simp only [List.mem_cons, List.not_mem_nil, or_false] at hb_ ⊢; omega))) hx6 (fun _ hb_ => by cases hb_)) hn7.ext (fun _ hb_ => by cases hb_)) hp9.only (fun b_ hb_ => .inr (by rw [List.mem_singleton.1 hb_]; exact (nt (nt hn1.ext.size uy.size) hx6.size)))) uy1 (fun b_ hb_ => .inl (by simp only [List.mem_cons, List.not_mem_nil, or_false] at hb_ ⊢; omega))) uy3 (fun b_ hb_ => .inl (by simp only [List.mem_cons, List.not_mem_nil, or_false] at hb_ ⊢; omega))) hx14 (fun _ hb_ => by cases hb_)) hp16.only (fun b_ hb_ => .inr (by rw [List.mem_singleton.1 hb_]; exact (nt (nt hn1.ext.size uy.size) hx6.size)))) hx21 (fun _ hb_ => by cases hb_)) hn22.ext (fun _ hb_ => by cases hb_)) hp24.only (fun b_ hb_ => .inr (by rw [List.mem_singleton.1 hb_]; exact (nt me7 hx21.size)))) hp30.only (fun b_ hb_ => .inr (by rw [List.mem_singleton.1 hb_]; exact (Nat.le_refl _)))), by rw [hx]; exact ((((uRh.ext hx14).out hp16.only (fun c_ hc_ => .inr (by rw [List.mem_singleton.1 hc_]; exact (nt uR.hle (nt (nt hn1.ext.size uy.size) hx6.size))))).ext ((hx21.trans hn22.ext).then' hp24.only (by simp) hx21.size)).out hp30.only (fun c_ hc_ => .inr (by rw [List.mem_singleton.1 hc_]; exact (nt uR.hle (Nat.le_refl _)))))⟩
    refine Wg ?_
    refine Mv ?_
    refine Lc (rdb_NextN uRr eH hl hf) ?_
    rintro _ h18 ⟨rfl, uy3, uRh⟩
    have hbh := uRh.blk
    refine Mx ?_
    refine A2 ?_
    refine Nx ?_
    refine Wu _ (sk2 7 6 rfl rfl (tk8 9 10 8 5 4 3 2 0)) ?_
    refine Wq (Wq (Wg ?_))
    refine Mv ?_
    refine Ly Yeq ?_
    refine Nx ?_
    refine Sd (fun e4 => ?_) fun e4 => ?_
    ·refine Wg ?_
     refine Av ?_
     refine Ln (Xt (Wq (Wq (Wg ?_))))
     refine Mv ?_
     refine Ly Yne ?_
     refine Nx ?_
     refine W_known true rfl (by first | rfl | decide | simp) ?_
     refine Wq ?_
     refine W_held (fun h' => Blk h' r [.pointer (some ⟨s, 0, none⟩), .int .i64 ((nP D f (dq p (nB D p)) 0 : Int)), .int .i64 ((nE D f (dq p (nB D p)) 0))]) 9 rfl (by kernel_rfl) ?_
     refine Ht 0 (fun h_ hI_ => Y_build (v := .agg #[.int .i64 0, str [], .int .i64 0, str [], .int .i64 0]) (pv := []) (evp (is := []) (os := []) (vs := []) rfl rfl) (fun _ => by kernel_rfl)) hbh ?_
     refine Ht 1 (fun h_ hI_ => Y_move rfl) hbh ?_
     refine Ht 2 (fun h_ hI_ => Y_nilCheck rfl) hbh ?_
     refine Ht 3 (fun h_ hI_ => Y_fieldAddr (off := 1) (by kernel_rfl) rfl rfl) hbh ?_
     refine Ht 4 (fun h_ hI_ => Y_ldblk Tryz.underlying2 rfl rfl hI_ rfl) hbh ?_
     refine Ht 5 (fun h_ hI_ => Y_move rfl) hbh ?_
     refine LH_one (i := 6) (by kernel_rfl) ?_
     have hc32 := ((((((hk2.only uy (fun hb_ => Nat.lt_irrefl _ (ntl (uR.lt2 _ hb_) (Nat.le_refl _)))).ext hx6).ext hn7.ext).only hp9.only (ni_lt (ntl hk2.lt (nt uy.size hx6.size)))).only uy1 (fun hb_ => Nat.lt_irrefl _ (ntl (uR.lt2 _ hb_) (Nat.le_refl _)))).only uy3 (fun hb_ => Nat.lt_irrefl _ (ntl (uR.lt2 _ hb_) (Nat.le_refl _))))
     refine LO_dos (i := 6) rfl (D_store (us := [.int .i64 0, str [], .int .i64 0, str [], .int .i64 0]) (show _ = some 5 by kernel_rfl) rfl rfl rfl (by simp [Value.oneCell']) hc32 (by simp)) rfl rfl ?_
     rintro h19 hp33
     have hc35 := (hbh.only hp33.only (ni_lt (ntl hb.lt (Nat.le_refl _))))
     refine ⟨hc35, ?_⟩
     have hk34 : Blk h19 h.size [.int .i64 0, str [], .int .i64 0, str [], .int .i64 0] := hp33.blk
     refine Ht 7 (fun h_ hI_ => Y_assign rfl) hc35 ?_
     refine Ht 8 (fun h_ hI_ => Y_assign rfl) hc35 ?_
     refine LH_done (by kernel_rfl) ?_
     refine Xt ?_
     refine Wu _ (sk1 4 rfl (tk8 3 7 6 9 10 8 5 2)) ?_
     refine Wt (Xr (Xr ?_))
     refine X_retv3 rfl (RVa Tryz.underlying37 hk34) rfl rfl ?_
     have hx := (dcd_x e0 z u t).trans (dcx_n eR eH)
     rw [if_pos e4] at hx
     exact ⟨by rw [hx]; rfl, (Only.trans (Only.trans (Only.trans (Only.trans (Only.trans (Only.trans (Only.trans (Only.trans (Only.refl _ _) hn1.ext (fun _ hb_ => by cases hb_)) uy (fun b_ hb_ => .inl (by simp only [List.mem_cons, List.not_mem_nil, or_false] at hb_ ⊢; omega))) hx6 (fun _ hb_ => by cases hb_)) hn7.ext (fun _ hb_ => by cases hb_)) hp9.only (fun b_ hb_ => .inr (by rw [List.mem_singleton.1 hb_]; exact (nt (nt hn1.ext.size uy.size) hx6.size)))) uy1 (fun b_ hb_ => .inl (by simp only [List.mem_cons, List.not_mem_nil, or_false] at hb_ ⊢; omega))) uy3 (fun b_ hb_ => .inl (by simp only [List.mem_cons, List.not_mem_nil, or_false] at hb_ ⊢; omega))) hp33.only (fun b_ hb_ => .inr (by rw [List.mem_singleton.1 hb_]; exact (Nat.le_refl _)))), by rw [hx]; exact (uRh.out hp33.only (fun c_ hc_ => .inr (by rw [List.mem_singleton.1 hc_]; exact (nt uR.hle (Nat.le_refl _)))))⟩
    refine Wk (Xt (Wq (Wq (Wg ?_))))
    refine Mv ?_
    refine Ly Yne ?_
    refine Nx ?_
    refine W_known true rfl (by exact decide_eq_true (by exact eH)) ?_
    refine Wq ?_
    refine W_held (fun h' => Blk h' r [.pointer (some ⟨s, 0, none⟩), .int .i64 ((nP D f (dq p (nB D p)) 0 : Int)), .int .i64 ((nE D f (dq p (nB D p)) 0))]) 9 rfl (by kernel_rfl) ?_
    refine Ht 0 (fun h_ hI_ => Y_build (v := .agg #[.int .i64 0, str [], .int .i64 0, str [], .int .i64 0]) (pv := []) (evp (is := []) (os := []) (vs := []) rfl rfl) (fun _ => by kernel_rfl)) hbh ?_
    refine Ht 1 (fun h_ hI_ => Y_move rfl) hbh ?_
    refine Ht 2 (fun h_ hI_ => Y_nilCheck rfl) hbh ?_
    refine Ht 3 (fun h_ hI_ => Y_fieldAddr (off := 1) (by kernel_rfl) rfl rfl) hbh ?_
    refine Ht 4 (fun h_ hI_ => Y_ldblk Tryz.underlying2 rfl rfl hI_ rfl) hbh ?_
    refine Ht 5 (fun h_ hI_ => Y_move rfl) hbh ?_
    refine LH_one (i := 6) (by kernel_rfl) ?_
    have hc36 := ((((((hk2.only uy (fun hb_ => Nat.lt_irrefl _ (ntl (uR.lt2 _ hb_) (Nat.le_refl _)))).ext hx6).ext hn7.ext).only hp9.only (ni_lt (ntl hk2.lt (nt uy.size hx6.size)))).only uy1 (fun hb_ => Nat.lt_irrefl _ (ntl (uR.lt2 _ hb_) (Nat.le_refl _)))).only uy3 (fun hb_ => Nat.lt_irrefl _ (ntl (uR.lt2 _ hb_) (Nat.le_refl _))))
    refine LO_dos (i := 6) rfl (D_store (us := [.int .i64 0, str [], .int .i64 0, str [], .int .i64 0]) (show _ = some 5 by kernel_rfl) rfl rfl rfl (by simp [Value.oneCell']) hc36 (by simp)) rfl rfl ?_
    rintro h20 hp37
    have hc39 := (hbh.only hp37.only (ni_lt (ntl hb.lt (Nat.le_refl _))))
    refine ⟨hc39, ?_⟩
    have hk38 : Blk h20 h.size [.int .i64 0, str [], .int .i64 0, str [], .int .i64 0] := hp37.blk
    refine Ht 7 (fun h_ hI_ => Y_assign rfl) hc39 ?_
    refine Ht 8 (fun h_ hI_ => Y_assign rfl) hc39 ?_
    refine LH_done (by kernel_rfl) ?_
    refine Xt ?_
    refine Wu _ (sk1 4 rfl (tk8 3 7 6 9 10 8 5 2)) ?_
    refine Wt (Xr (Xr ?_))
    refine X_retv3 rfl (RVa Tryz.underlying37 hk38) rfl rfl ?_
    have hx := (dcd_x e0 z u t).trans (dcx_n eR eH)
    rw [if_neg e4] at hx
    exact ⟨by rw [hx]; rfl, (Only.trans (Only.trans (Only.trans (Only.trans (Only.trans (Only.trans (Only.trans (Only.trans (Only.refl _ _) hn1.ext (fun _ hb_ => by cases hb_)) uy (fun b_ hb_ => .inl (by simp only [List.mem_cons, List.not_mem_nil, or_false] at hb_ ⊢; omega))) hx6 (fun _ hb_ => by cases hb_)) hn7.ext (fun _ hb_ => by cases hb_)) hp9.only (fun b_ hb_ => .inr (by rw [List.mem_singleton.1 hb_]; exact (nt (nt hn1.ext.size uy.size) hx6.size)))) uy1 (fun b_ hb_ => .inl (by simp only [List.mem_cons, List.not_mem_nil, or_false] at hb_ ⊢; omega))) uy3 (fun b_ hb_ => .inl (by simp only [List.mem_cons, List.not_mem_nil, or_false] at hb_ ⊢; omega))) hp37.only (fun b_ hb_ => .inr (by rw [List.mem_singleton.1 hb_]; exact (Nat.le_refl _)))), by rw [hx]; exact (uRh.out hp37.only (fun c_ hc_ => .inr (by rw [List.mem_singleton.1 hc_]; exact (nt uR.hle (Nat.le_refl _)))))⟩
   refine Wg ?_
   refine Mv ?_
   refine Lg Tryz.underlying82 hk10 ?_
   refine Mv ?_
   refine L_call (E_call (by kernel_rfl) rfl) (ref_recN (uRx.ext ((hx6.trans hn7.ext).then' hp9.only (by simp) hx6.size)) hl hf eR) rfl rfl rfl ?_
   rintro _ h21 ⟨lv, rfl, uy1, uRr⟩
   refine Mx ?_
   refine Lx ?_
   refine A2 ?_
   refine An ?_
   refine Wu _ (sk5 13 12 11 10 9 rfl rfl rfl rfl rfl (tk8 7 8 6 5 4 3 2 0)) ?_
   refine Wq (Wq (Wg ?_))
   refine Mv ?_
   refine Ly Yne ?_
   refine Nx ?_
   refine W_known true rfl (by exact decide_eq_true (by exact eR)) ?_
   refine Wr ?_
   refine Ly (Yb (.agg #[.int .i64 0, str [], .int .i64 0, str [], .int .i64 0]) [] [] []) ?_
   refine M2 ?_
   have hc40 := (((((hk2.only uy (fun hb_ => Nat.lt_irrefl _ (ntl (uR.lt2 _ hb_) (Nat.le_refl _)))).ext hx6).ext hn7.ext).only hp9.only (ni_lt (ntl hk2.lt (nt uy.size hx6.size)))).only uy1 (fun hb_ => Nat.lt_irrefl _ (ntl (uR.lt2 _ hb_) (Nat.le_refl _))))
   refine Lds [.int .i64 0, str [], .int .i64 0, str [], .int .i64 0] hc40 ?_
   rintro h22 hp41
   have hk42 : Blk h22 h.size [.int .i64 0, str [], .int .i64 0, str [], .int .i64 0] := hp41.blk
   refine A2 ?_
   refine Nx ?_
   refine Wu _ (sk3 4 3 11 rfl rfl rfl (tk8 10 9 7 8 6 5 2 0)) ?_
   refine Wt (Xr (Xr ?_))
   refine X_retv3 rfl (RVa Tryz.underlying37 hk42) rfl rfl ?_
   have hx := (dcd_x e0 z u t).trans (dcx_r eR)
   exact ⟨by rw [hx, dout_dcr], (Only.trans (Only.trans (Only.trans (Only.trans (Only.trans (Only.trans (Only.trans (Only.refl _ _) hn1.ext (fun _ hb_ => by cases hb_)) uy (fun b_ hb_ => .inl (by simp only [List.mem_cons, List.not_mem_nil, or_false] at hb_ ⊢; omega))) hx6 (fun _ hb_ => by cases hb_)) hn7.ext (fun _ hb_ => by cases hb_)) hp9.only (fun b_ hb_ => .inr (by rw [List.mem_singleton.1 hb_]; exact (nt (nt hn1.ext.size uy.size) hx6.size)))) uy1 (fun b_ hb_ => .inl (by simp only [List.mem_cons, List.not_mem_nil, or_false] at hb_ ⊢; omega))) hp41.only (fun b_ hb_ => .inr (by rw [List.mem_singleton.1 hb_]; exact (Nat.le_refl _)))), by rw [hx]; exact (uRr.out hp41.only (fun c_ hc_ => .inr (by rw [List.mem_singleton.1 hc_]; exact (nt uR.hle (Nat.le_refl _)))))⟩
  refine Ws ?_
  refine Wu _ (tk8 10 9 7 8 5 4 3 2) ?_
  have hU := ud_lens (nB D p)
  have hUS := udS_rng (nB D p)
  refine Wr ?_
  refine Lg Tryz.underlying82 hk10 ?_
  refine Mv ?_
  refine Lc (ref10_Merge _ (udT (nB D p)) (udN (nB D p)) (udP (nB D p)) (udL (nB D p)) (udM (nB D p)) (udS (nB D p)) (.slice none 0 0) ([] : List Rec) (Rows.nil recS _) (udT_rng _) (by omega) (by omega) (by omega) (by simp) (fun r_ hr_ => absurd hr_ List.not_mem_nil)) ?_
  rintro _ h23 ⟨rfl, hx43⟩
  refine Mx ?_
  refine L_mks (M_alloc (u := .agg #[.int .i64 0, str [], .int .i64 0, str [], .int .i64 0]) (by kernel_rfl)) rfl rfl rfl ?_
  rintro _ h24 ⟨rfl, hn44⟩
  have hk45 : Blk h24 h23.size [.int .i64 0, str [], .int .i64 0, str [], .int .i64 0] := hn44.blk
  refine Lds [.int .i64 (oI (mres (udT (nB D p)) (udN (nB D p)) (udP (nB D p)) (udL (nB D p)) (udM (nB D p)) (udS (nB D p)) ([] : List Rec)) (mkind (udT (nB D p)))), str (oP (mres (udT (nB D p)) (udN (nB D p)) (udP (nB D p)) (udL (nB D p)) (udM (nB D p)) (udS (nB D p)) ([] : List Rec))), .int .i64 (oI (mres (udT (nB D p)) (udN (nB D p)) (udP (nB D p)) (udL (nB D p)) (udM (nB D p)) (udS (nB D p)) ([] : List Rec)) (udM (nB D p))), str (oT (mres (udT (nB D p)) (udN (nB D p)) (udP (nB D p)) (udL (nB D p)) (udM (nB D p)) (udS (nB D p)) ([] : List Rec))), .int .i64 (oZ (mres (udT (nB D p)) (udN (nB D p)) (udP (nB D p)) (udL (nB D p)) (udM (nB D p)) (udS (nB D p)) ([] : List Rec)))] hk45 ?_
  rintro h25 hp46
  have hk47 : Blk h25 h23.size [.int .i64 (oI (mres (udT (nB D p)) (udN (nB D p)) (udP (nB D p)) (udL (nB D p)) (udM (nB D p)) (udS (nB D p)) ([] : List Rec)) (mkind (udT (nB D p)))), str (oP (mres (udT (nB D p)) (udN (nB D p)) (udP (nB D p)) (udL (nB D p)) (udM (nB D p)) (udS (nB D p)) ([] : List Rec))), .int .i64 (oI (mres (udT (nB D p)) (udN (nB D p)) (udP (nB D p)) (udL (nB D p)) (udM (nB D p)) (udS (nB D p)) ([] : List Rec)) (udM (nB D p))), str (oT (mres (udT (nB D p)) (udN (nB D p)) (udP (nB D p)) (udL (nB D p)) (udM (nB D p)) (udS (nB D p)) ([] : List Rec))), .int .i64 (oZ (mres (udT (nB D p)) (udN (nB D p)) (udP (nB D p)) (udL (nB D p)) (udM (nB D p)) (udS (nB D p)) ([] : List Rec)))] := hp46.blk
  refine An ?_
  refine Wu _ (tk7 7 14 9 5 4 3 2) ?_
  refine Wq (Wq (Wg ?_))
  refine Mv ?_
  refine Ly Yne ?_
  refine Nx ?_
  refine Sd (fun w => ?_) fun w => ?_
  ·refine Wr ?_
   refine Ly (Yb (.agg #[.int .i64 0, str [], .int .i64 0, str [], .int .i64 0]) [] [] []) ?_
   refine M2 ?_
   have me8 := nt (nt (nt (nt uy.size hx6.size) hn7.ext.size) hp9.only.size) hx43.size
   have hc48 := (((((((hk2.only uy (fun hb_ => Nat.lt_irrefl _ (ntl (uR.lt2 _ hb_) (Nat.le_refl _)))).ext hx6).ext hn7.ext).only hp9.only (ni_lt (ntl hk2.lt (nt uy.size hx6.size)))).ext hx43).ext hn44.ext).only hp46.only (ni_lt (ntl hk2.lt me8)))
   refine Lds [.int .i64 0, str [], .int .i64 0, str [], .int .i64 0] hc48 ?_
   rintro h26 hp49
   have hk50 : Blk h26 h.size [.int .i64 0, str [], .int .i64 0, str [], .int .i64 0] := hp49.blk
   refine A2 ?_
   refine Nx ?_
   refine Wu _ (tk5 4 3 14 5 2) ?_
   refine Wt (Xr ?_)
   refine X_retv3 rfl (RVa Tryz.underlying37 hk50) rfl rfl ?_
   have hx := (dcd_m e0 z u t).trans (dcm_n w)
   have me9 := ((hx6.trans hn7.ext).then' hp9.only (by simp) hx6.size).trans hx43
   have me10 := nt (nt (nt hx6.size hn7.ext.size) hp9.only.size) hx43.size
   have me11 := nt (nt (nt (nt hn1.ext.size uy.size) hx6.size) hn7.ext.size) hp9.only.size
   exact ⟨by rw [hx]; rfl, (Only.trans (Only.trans (Only.trans (Only.trans (Only.trans (Only.trans (Only.trans (Only.trans (Only.trans (Only.refl _ _) hn1.ext (fun _ hb_ => by cases hb_)) uy (fun b_ hb_ => .inl (by simp only [List.mem_cons, List.not_mem_nil, or_false] at hb_ ⊢; omega))) hx6 (fun _ hb_ => by cases hb_)) hn7.ext (fun _ hb_ => by cases hb_)) hp9.only (fun b_ hb_ => .inr (by rw [List.mem_singleton.1 hb_]; exact (nt (nt hn1.ext.size uy.size) hx6.size)))) hx43 (fun _ hb_ => by cases hb_)) hn44.ext (fun _ hb_ => by cases hb_)) hp46.only (fun b_ hb_ => .inr (by rw [List.mem_singleton.1 hb_]; exact (nt me11 hx43.size)))) hp49.only (fun b_ hb_ => .inr (by rw [List.mem_singleton.1 hb_]; exact (Nat.le_refl _)))), by rw [hx]; exact ((uRx.ext ((me9.trans hn44.ext).then' hp46.only (by simp) me10)).out hp49.only (fun c_ hc_ => .inr (by rw [List.mem_singleton.1 hc_]; exact (nt uR.hle (Nat.le_refl _)))))⟩
  refine Wk (Xt (Wq (Wg ?_)))
  refine Lg Tryz.underlying37 hk47 ?_
  refine Mv ?_
  have me12 := nt (nt (nt (nt uy.size hx6.size) hn7.ext.size) hp9.only.size) hx43.size
  have hc51 := (((((((hk2.only uy (fun hb_ => Nat.lt_irrefl _ (ntl (uR.lt2 _ hb_) (Nat.le_refl _)))).ext hx6).ext hn7.ext).only hp9.only (ni_lt (ntl hk2.lt (nt uy.size hx6.size)))).ext hx43).ext hn44.ext).only hp46.only (ni_lt (ntl hk2.lt me12)))
  refine Lds [.int .i64 (oI (mres (udT (nB D p)) (udN (nB D p)) (udP (nB D p)) (udL (nB D p)) (udM (nB D p)) (udS (nB D p)) ([] : List Rec)) (mkind (udT (nB D p)))), str (oP (mres (udT (nB D p)) (udN (nB D p)) (udP (nB D p)) (udL (nB D p)) (udM (nB D p)) (udS (nB D p)) ([] : List Rec))), .int .i64 (oI (mres (udT (nB D p)) (udN (nB D p)) (udP (nB D p)) (udL (nB D p)) (udM (nB D p)) (udS (nB D p)) ([] : List Rec)) (udM (nB D p))), str (oT (mres (udT (nB D p)) (udN (nB D p)) (udP (nB D p)) (udL (nB D p)) (udM (nB D p)) (udS (nB D p)) ([] : List Rec))), .int .i64 (oZ (mres (udT (nB D p)) (udN (nB D p)) (udP (nB D p)) (udL (nB D p)) (udM (nB D p)) (udS (nB D p)) ([] : List Rec)))] hc51 ?_
  rintro h27 hp52
  have hk53 : Blk h27 h.size [.int .i64 (oI (mres (udT (nB D p)) (udN (nB D p)) (udP (nB D p)) (udL (nB D p)) (udM (nB D p)) (udS (nB D p)) ([] : List Rec)) (mkind (udT (nB D p)))), str (oP (mres (udT (nB D p)) (udN (nB D p)) (udP (nB D p)) (udL (nB D p)) (udM (nB D p)) (udS (nB D p)) ([] : List Rec))), .int .i64 (oI (mres (udT (nB D p)) (udN (nB D p)) (udP (nB D p)) (udL (nB D p)) (udM (nB D p)) (udS (nB D p)) ([] : List Rec)) (udM (nB D p))), str (oT (mres (udT (nB D p)) (udN (nB D p)) (udP (nB D p)) (udL (nB D p)) (udM (nB D p)) (udS (nB D p)) ([] : List Rec))), .int .i64 (oZ (mres (udT (nB D p)) (udN (nB D p)) (udP (nB D p)) (udL (nB D p)) (udM (nB D p)) (udS (nB D p)) ([] : List Rec)))] := hp52.blk
  refine A2 ?_
  refine Nx ?_
  refine Wu _ (tk3 4 3 2) ?_
  refine Wt ?_
  refine X_retv3 rfl (RVa Tryz.underlying37 hk53) rfl rfl ?_
  have hx := (dcd_m e0 z u t).trans (dcm_y w)
  have me13 := ((hx6.trans hn7.ext).then' hp9.only (by simp) hx6.size).trans hx43
  have me14 := nt (nt (nt hx6.size hn7.ext.size) hp9.only.size) hx43.size
  have me15 := nt (nt (nt (nt hn1.ext.size uy.size) hx6.size) hn7.ext.size) hp9.only.size
  exact ⟨by rw [hx]; rfl, (Only.trans (Only.trans (Only.trans (Only.trans (Only.trans (Only.trans (Only.trans (Only.trans (Only.trans (Only.refl _ _) hn1.ext (fun _ hb_ => by cases hb_)) uy (fun b_ hb_ => .inl (by simp only [List.mem_cons, List.not_mem_nil, or_false] at hb_ ⊢; omega))) hx6 (fun _ hb_ => by cases hb_)) hn7.ext (fun _ hb_ => by cases hb_)) hp9.only (fun b_ hb_ => .inr (by rw [List.mem_singleton.1 hb_]; exact (nt (nt hn1.ext.size uy.size) hx6.size)))) hx43 (fun _ hb_ => by cases hb_)) hn44.ext (fun _ hb_ => by cases hb_)) hp46.only (fun b_ hb_ => .inr (by rw [List.mem_singleton.1 hb_]; exact (nt me15 hx43.size)))) hp52.only (fun b_ hb_ => .inr (by rw [List.mem_singleton.1 hb_]; exact (Nat.le_refl _)))), by rw [hx]; exact ((uRx.ext ((me13.trans hn44.ext).then' hp46.only (by simp) me14)).out hp52.only (fun c_ hc_ => .inr (by rw [List.mem_singleton.1 hc_]; exact (nt uR.hle (Nat.le_refl _)))))⟩
 refine Wg ?_
 refine Mv ?_
 refine Lc (rdb_NextN (uR.ext hn1.ext) e0 hl hf) ?_
 rintro _ h28 ⟨rfl, uy, uRx⟩
 have hbx := uRx.blk
 refine Mx ?_
 refine A2 ?_
 refine Nx ?_
 refine Wu _ (tk7 7 6 5 4 3 2 0) ?_
 refine Wq (Wq (Wg ?_))
 refine Mv ?_
 refine Ly Yne ?_
 refine Nx ?_
 refine W_known true rfl (by exact decide_eq_true (by exact e0)) ?_
 refine Wq ?_
 refine W_held (fun h' => Blk h' r [.pointer (some ⟨s, 0, none⟩), .int .i64 ((nP D f p er : Int)), .int .i64 ((nE D f p er))]) 9 rfl (by kernel_rfl) ?_
 refine Ht 0 (fun h_ hI_ => Y_build (v := .agg #[.int .i64 0, str [], .int .i64 0, str [], .int .i64 0]) (pv := []) (evp (is := []) (os := []) (vs := []) rfl rfl) (fun _ => by kernel_rfl)) hbx ?_
 refine Ht 1 (fun h_ hI_ => Y_move rfl) hbx ?_
 refine Ht 2 (fun h_ hI_ => Y_nilCheck rfl) hbx ?_
 refine Ht 3 (fun h_ hI_ => Y_fieldAddr (off := 1) (by kernel_rfl) rfl rfl) hbx ?_
 refine Ht 4 (fun h_ hI_ => Y_ldblk Tryz.underlying2 rfl rfl hI_ rfl) hbx ?_
 refine Ht 5 (fun h_ hI_ => Y_move rfl) hbx ?_
 refine LH_one (i := 6) (by kernel_rfl) ?_
 have hc54 := (hk2.only uy (fun hb_ => Nat.lt_irrefl _ (ntl (uR.lt2 _ hb_) (Nat.le_refl _))))
 refine LO_dos (i := 6) rfl (D_store (us := [.int .i64 0, str [], .int .i64 0, str [], .int .i64 0]) (show _ = some 5 by kernel_rfl) rfl rfl rfl (by simp [Value.oneCell']) hc54 (by simp)) rfl rfl ?_
 rintro h29 hp55
 have hc57 := (hbx.only hp55.only (ni_lt (ntl hb.lt (Nat.le_refl _))))
 refine ⟨hc57, ?_⟩
 have hk56 : Blk h29 h.size [.int .i64 0, str [], .int .i64 0, str [], .int .i64 0] := hp55.blk
 refine Ht 7 (fun h_ hI_ => Y_assign rfl) hc57 ?_
 refine Ht 8 (fun h_ hI_ => Y_assign rfl) hc57 ?_
 refine LH_done (by kernel_rfl) ?_
 refine Xt ?_
 refine Wu _ (tk7 4 3 7 6 5 2 0) ?_
 refine Wt (Xr ?_)
 refine X_retv3 rfl (RVa Tryz.underlying37 hk56) rfl rfl ?_
 have hx := dcd_n e0
 exact ⟨by rw [hx]; rfl, (Only.trans (Only.trans (Only.trans (Only.refl _ _) hn1.ext (fun _ hb_ => by cases hb_)) uy (fun b_ hb_ => .inl (by simp only [List.mem_cons, List.not_mem_nil, or_false] at hb_ ⊢; omega))) hp55.only (fun b_ hb_ => .inr (by rw [List.mem_singleton.1 hb_]; exact (Nat.le_refl _)))), by rw [hx]; exact (uRx.out hp55.only (fun c_ hc_ => .inr (by rw [List.mem_singleton.1 hc_]; exact (nt uR.hle (Nat.le_refl _)))))⟩
end Go.Xp
