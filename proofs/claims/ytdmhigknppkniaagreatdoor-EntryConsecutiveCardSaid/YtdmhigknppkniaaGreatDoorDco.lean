/- Layer 12 (entry): Decode: what the code does. -/
import Derived.Test.YtdmhigknppkniaaGreatDoorDcw
import Derived.Test.YtdmhigknppkniaaGreatDoorDch
set_option linter.unusedSimpArgs false
set_option linter.unusedVariables false
set_option linter.unusedSectionVars false
set_option maxRecDepth 100000
namespace Go.Xp
open Go.Proofs

section
variable {h : Heap} {d : Nat} {lo hi r s : Nat} {D : List UInt8} {f : Int} {p : Nat} {b : List UInt8} {n : Int}
theorem halve3 {h h' : Heap} (y : Only [r, s, d] h h') (hd : d < h.size) : ∃ hm, Only [r, s] h hm ∧ Only [d] hm h' := Only.halve (l := [r, s]) y hd
theorem dec_recN (hR0 : Heap) (xR0 : Ext hR0 h) (hlo : hR0.size ≤ lo) (hK : GlbK hR0) (hN : GlbN hR0) (hE : GlbE hR0) (uR : RdA lo hi h r s D f (p + 512) 0) (hd : Blk h d [.pointer (some ⟨r, 0, none⟩), .int .i64 (p : Int)]) (hdh : hi ≤ d) (hl : D.length ≤ 100000000000) (hf : -9223372036854775808 ≤ f ∧ f ≤ 9223372036854775807) (e : ¬ (dcr D f p b).e = 0) :
    Cal Tryz.prog 23 #[.pointer (some ⟨d, 0, none⟩), .agg #[.int .u8 (udT b), str (udN b), str (udP b), str (udL b), .int .i64 (udM b), .int .i64 (udS b)]] h (fun v h' => ∃ lv hm, v = .tuple #[lv, .int .i64 (dcr D f p b).e] ∧ Only [r, s] h hm ∧ Only [d] hm h' ∧ Blk h' d [.pointer (some ⟨r, 0, none⟩), .int .i64 (dcr D f p b).n] ∧ RdA lo hi h' r s D f (dcr D f p b).pos (dcr D f p b).er) :=
  (dec_records h d lo hi r s D f p uR hd b hdh hl hf hR0 xR0 hlo hK hN hE).mono fun v h' ⟨lv, q1, q2, q3, q4, q5⟩ => by
    obtain ⟨hm, m1, m2⟩ := halve3 q2 hd.lt
    exact ⟨lv, hm, q1, m1, m2, q3, q4⟩
theorem dec_recY (hR0 : Heap) (xR0 : Ext hR0 h) (hlo : hR0.size ≤ lo) (hK : GlbK hR0) (hN : GlbN hR0) (hE : GlbE hR0) (uR : RdA lo hi h r s D f (p + 512) 0) (hd : Blk h d [.pointer (some ⟨r, 0, none⟩), .int .i64 (p : Int)]) (hdh : hi ≤ d) (hl : D.length ≤ 100000000000) (hf : -9223372036854775808 ≤ f ∧ f ≤ 9223372036854775807) (e : (dcr D f p b).e = 0) :
    Cal Tryz.prog 23 #[.pointer (some ⟨d, 0, none⟩), .agg #[.int .u8 (udT b), str (udN b), str (udP b), str (udL b), .int .i64 (udM b), .int .i64 (udS b)]] h (fun v h' => ∃ lv hm, v = .tuple #[lv, .int .i64 0] ∧ Only [r, s] h hm ∧ Only [d] hm h' ∧ Blk h' d [.pointer (some ⟨r, 0, none⟩), .int .i64 (dcr D f p b).n] ∧ RdA lo hi h' r s D f (dq p b) 0 ∧ RowsO recS h' h.size lv (dl D p b).1) :=
  (dec_records h d lo hi r s D f p uR hd b hdh hl hf hR0 xR0 hlo hK hN hE).mono fun v h' ⟨lv, q1, q2, q3, q4, q5⟩ => by
    obtain ⟨hm, m1, m2⟩ := halve3 q2 hd.lt
    obtain ⟨k1, k2, k3, -, -, -⟩ := dcr_ok e
    rw [k2, k3] at q4
    exact ⟨lv, hm, by rw [q1, e], m1, m2, q3, q4, q5 e⟩
theorem dec_hdrN (hR0 : Heap) (xR0 : Ext hR0 h) (hlo : hR0.size ≤ lo) (hG : Glb hR0) (uR : RdA lo hi h r s D f p 0) (hd : Blk h d [.pointer (some ⟨r, 0, none⟩), .int .i64 n]) (hdh : hi ≤ d) (hl : D.length ≤ 100000000000) (hf : -9223372036854775808 ≤ f ∧ f ≤ 9223372036854775807) (e : ¬ nE D f p 0 = 0) :
    Cal Tryz.prog 24 #[.pointer (some ⟨d, 0, none⟩)] h (fun v h' => ∃ hm, v = .tuple #[.agg #[.int .u8 0, str [], str [], str [], .int .i64 0, .int .i64 0], .int .i64 (nE D f p 0)] ∧ Only [r, s] h hm ∧ Only [d] hm h' ∧ Blk h' d [.pointer (some ⟨r, 0, none⟩), .int .i64 (nP D f p 0 : Int)] ∧ RdA lo hi h' r s D f (nP D f p 0) (nE D f p 0)) :=
  (dec_header h d lo hi r s D f p uR n hd hdh hl hf hR0 xR0 hlo hG).mono fun v h' q => by
    rcases q with ⟨q0, q1, q2, q3, q4⟩ | ⟨q0, _⟩
    · obtain ⟨hm, m1, m2⟩ := halve3 q2 hd.lt
      exact ⟨hm, q1, m1, m2, q3, q4⟩
    · exact absurd q0 e
theorem dec_hdrY (hR0 : Heap) (xR0 : Ext hR0 h) (hlo : hR0.size ≤ lo) (hG : Glb hR0) (uR : RdA lo hi h r s D f p 0) (hd : Blk h d [.pointer (some ⟨r, 0, none⟩), .int .i64 n]) (hdh : hi ≤ d) (hl : D.length ≤ 100000000000) (hf : -9223372036854775808 ≤ f ∧ f ≤ 9223372036854775807) (e : nE D f p 0 = 0) :
    Cal Tryz.prog 24 #[.pointer (some ⟨d, 0, none⟩)] h (fun v h' => ∃ hm, v = .tuple #[.agg #[.int .u8 (udT (nB D p)), str (udN (nB D p)), str (udP (nB D p)), str (udL (nB D p)), .int .i64 (udM (nB D p)), .int .i64 (udS (nB D p))], .int .i64 (uderr (nB D p))] ∧ Only [r, s] h hm ∧ Only [d] hm h' ∧ Blk h' d [.pointer (some ⟨r, 0, none⟩), .int .i64 (p : Int)] ∧ RdA lo hi h' r s D f (p + 512) 0) :=
  (dec_header h d lo hi r s D f p uR n hd hdh hl hf hR0 xR0 hlo hG).mono fun v h' q => by
    rcases q with ⟨q0, _⟩ | ⟨q0, q1, q2, q3, q4⟩
    · exact absurd e q0
    · obtain ⟨hm, m1, m2⟩ := halve3 q2 hd.lt
      exact ⟨hm, q1, m1, m2, q3, q4⟩
end
theorem entry_Decode (h : Heap) (lo hi r s : Nat) (D : List UInt8) (f : Int) (p : Nat) (er : Int) (uR : RdA lo hi h r s D f p er) (hl : D.length ≤ 100000000000) (hf : -9223372036854775808 ≤ f ∧ f ≤ 9223372036854775807) (hR0 : Heap) (xR0 : Ext hR0 h) (hlo : hR0.size ≤ lo) (hG : Glb hR0) (hK : GlbK hR0) (hN : GlbN hR0) (hE : GlbE hR0) (hT : GlbT hR0) (hS : GlbS hR0) : Cal Tryz.prog 11 #[.pointer (some ⟨r, 0, none⟩)] h (fun v h' => v = dout (dcd D f p er) ∧ Only [r, s] h h' ∧ RdA lo hi h' r s D f (dcd D f p er).pos (dcd D f p er).er) := by
 have ug : ∀ c ∈ [r, s], hR0.size ≤ c := fun c hc => nt hlo (uR.ge2 c hc)
 have hp := uR.src.le
 refine Ce Tryz.func11 fun σ => ?_
 refine Wr ?_
 refine L_mks (M_alloc (u := .agg #[.int .i64 0, str [], .int .i64 0, str [], .int .i64 0]) (by kernel_rfl)) rfl rfl rfl ?_
 rintro _ h1 ⟨rfl, hn1⟩
 have hk2 : Blk h1 h.size [.int .i64 0, str [], .int .i64 0, str [], .int .i64 0] := hn1.blk
 refine A2 ?_
 refine Ln (Xt (Wq (Wq (Wg ?_))))
 refine Mv ?_
 refine Ly (Y_pnil (ad := some ⟨r, 0, none⟩) (show _ = some (TypeDesc.pointer (Tryz.prog.pointee 27)) by kernel_rfl) rfl rfl) ?_
 refine Nx ?_
 refine W_false rfl ?_
 refine Wk (Xt (Wq (Wg ?_)))
 refine Mv ?_
 refine Ly (Yb (.agg #[.pointer (some ⟨r, 0, none⟩), .int .i64 0]) [0] [.tmp 15] [.pointer (some ⟨r, 0, none⟩)]) ?_
 refine L_mks (M_box rfl) rfl rfl rfl ?_
 rintro _ h2 ⟨rfl, hn3⟩
 have hk4 : Blk h2 h1.size [.pointer (some ⟨r, 0, none⟩), .int .i64 0] := hn3.blk
 refine Av ?_
 refine Ln (Xt (Wq (Wg ?_)))
 refine Mv ?_
 refine Lc (rd_Off (uR.ext (hn1.ext.trans hn3.ext))) ?_
 rintro _ h3 ⟨rfl, ux1⟩
 refine An ?_
 refine Wu _ (tk6 6 5 4 3 2 0) ?_
 refine Wq ?_
 by_cases e0 : nE D f p er = 0
 ·refine Wg ?_
  refine Mv ?_
  refine Lc (rd_NextO (uR.ext ((hn1.ext.trans hn3.ext).trans ux1)) e0 hl hf) ?_
  rintro _ h4 ⟨uvx, rfl, uLx, uy, uRx⟩
  refine Mx ?_
  refine A2 ?_
  refine Ln (Xt (Wq (Wb (Wq (Wg ?_)))))
  refine Mv ?_
  refine Ly Yne ?_
  refine An ?_
  refine Wu _ (sk1 25 rfl (tk8 8 7 6 5 4 3 2 0)) ?_
  refine W_known false rfl (by first | rfl | decide | simp) ?_
  have hlnB : (nB D p).length ≤ 512 := by unfold nB; rw [List.length_take]; omega
  refine Wm ?_
  refine Lc (entry_IsZero _ uvx (nB D p) uLx.bytes (by first | omega | rfl | (simp <;> omega))) ?_
  rintro _ h4 ⟨rfl, rfl⟩
  refine An ?_
  refine Sd (fun z => ?_) fun z => ?_
  ·refine Wr ?_
   refine Ly (Yb (.agg #[.int .i64 0, str [], .int .i64 0, str [], .int .i64 0]) [] [] []) ?_
   refine Mv ?_
   have hc5 := (((hk2.ext hn3.ext).ext ux1).only uy (fun hb_ => Nat.lt_irrefl _ (ntl (uR.lt2 _ hb_) (Nat.le_refl _))))
   refine Lds [.int .i64 0, str [], .int .i64 0, str [], .int .i64 0] hc5 ?_
   rintro h5 hp6
   have hk7 : Blk h5 h.size [.int .i64 0, str [], .int .i64 0, str [], .int .i64 0] := hp6.blk
   refine A2 ?_
   refine Nx ?_
   refine Wu _ (tk7 4 3 8 7 6 5 2) ?_
   refine Wt (Yr (Xr ?_))
   refine X_retv3 rfl (RVa Tryz.underlying37 hk7) rfl rfl ?_
   have hx := dcd_z e0 z
   exact ⟨by rw [hx]; rfl, (Only.trans (Only.trans (Only.trans (Only.trans (Only.trans (Only.refl _ _) hn1.ext (fun _ hb_ => by cases hb_)) hn3.ext (fun _ hb_ => by cases hb_)) ux1 (fun _ hb_ => by cases hb_)) uy (fun b_ hb_ => .inl (by simp only [List.mem_cons, List.not_mem_nil, or_false] at hb_ ⊢; omega))) hp6.only (fun b_ hb_ => .inr (by rw [List.mem_singleton.1 hb_]; exact (Nat.le_refl _)))), by rw [hx]; exact (uRx.out hp6.only (fun c_ hc_ => .inr (by rw [List.mem_singleton.1 hc_]; exact (nt uR.hle (Nat.le_refl _)))))⟩
  refine Wk (Xb (Xt (Wq (Wg ?_))))
  refine M2 ?_
  refine Ly (Y_nilCheck rfl) ?_
  refine Lf 1 ?_
  have hc8 := ((hk4.ext ux1).only uy (fun hb_ => Nat.lt_irrefl _ (ntl (uR.lt2 _ hb_) hn1.ext.size)))
  refine Lds [.int .i64 ((p : Int))] hc8 ?_
  rintro h6 hp9
  have hk10 : Blk h6 h1.size [.pointer (some ⟨r, 0, none⟩), .int .i64 ((p : Int))] := hp9.blk
  refine Nx ?_
  refine Wu _ (tk7 8 7 6 5 4 3 2) ?_
  refine Wm ?_
  have me1 := (((xR0.trans hn1.ext).trans hn3.ext).trans ux1).then' uy ug (Nat.le_refl _)
  refine Lc (ustar_Decode _ (hG.ext (me1.then' hp9.only (by simp) (nt xR0.size hn1.ext.size))) uvx (nB D p) ((uLx.only1 hp9.only (ntl hk4.lt ux1.size)).bytes) (by first | omega | rfl | (simp <;> omega))) ?_
  rintro _ h7 ⟨rfl, hx11⟩
  refine Mx ?_
  refine L_mks (M_alloc (u := .agg #[.int .u8 0, str [], str [], str [], .int .i64 0, .int .i64 0]) (by kernel_rfl)) rfl rfl rfl ?_
  rintro _ h8 ⟨rfl, hn12⟩
  have hk13 : Blk h8 h7.size [.int .u8 0, str [], str [], str [], .int .i64 0, .int .i64 0] := hn12.blk
  refine Lds [.int .u8 (udT (nB D p)), str (udN (nB D p)), str (udP (nB D p)), str (udL (nB D p)), .int .i64 (udM (nB D p)), .int .i64 (udS (nB D p))] hk13 ?_
  rintro h9 hp14
  have hk15 : Blk h9 h7.size [.int .u8 (udT (nB D p)), str (udN (nB D p)), str (udP (nB D p)), str (udL (nB D p)), .int .i64 (udM (nB D p)), .int .i64 (udS (nB D p))] := hp14.blk
  refine An ?_
  refine Wu _ (tk7 8 9 6 5 4 3 2) ?_
  refine Wq (Wq (Wg ?_))
  refine Mv ?_
  refine Ly Yne ?_
  refine Nx ?_
  refine Sd (fun u => ?_) fun u => ?_
  ·refine Wr ?_
   refine Ly (Yb (.agg #[.int .i64 0, str [], .int .i64 0, str [], .int .i64 0]) [] [] []) ?_
   refine M2 ?_
   have me2 := nt (nt (nt (nt hn3.ext.size ux1.size) uy.size) hp9.only.size) hx11.size
   have hc16 := (((((((hk2.ext hn3.ext).ext ux1).only uy (fun hb_ => Nat.lt_irrefl _ (ntl (uR.lt2 _ hb_) (Nat.le_refl _)))).only hp9.only (ni_lt (ntl hk2.lt (Nat.le_refl _)))).ext hx11).ext hn12.ext).only hp14.only (ni_lt (ntl hk2.lt me2)))
   refine Lds [.int .i64 0, str [], .int .i64 0, str [], .int .i64 0] hc16 ?_
   rintro h10 hp17
   have hk18 : Blk h10 h.size [.int .i64 0, str [], .int .i64 0, str [], .int .i64 0] := hp17.blk
   refine A2 ?_
   refine Ln (Xt (Wt (Xr ?_)))
   refine X_retv3 rfl (RVa Tryz.underlying37 hk18) rfl rfl ?_
   have hx := dcd_u e0 z u
   have me3 := nt (nt (nt (nt hn1.ext.size hn3.ext.size) ux1.size) uy.size) hp9.only.size
   exact ⟨by rw [hx]; rfl, (Only.trans (Only.trans (Only.trans (Only.trans (Only.trans (Only.trans (Only.trans (Only.trans (Only.trans (Only.refl _ _) hn1.ext (fun _ hb_ => by cases hb_)) hn3.ext (fun _ hb_ => by cases hb_)) ux1 (fun _ hb_ => by cases hb_)) uy (fun b_ hb_ => .inl (by simp only [List.mem_cons, List.not_mem_nil, or_false] at hb_ ⊢; omega))) hp9.only (fun b_ hb_ => .inr (by rw [List.mem_singleton.1 hb_]; exact hn1.ext.size))) hx11 (fun _ hb_ => by cases hb_)) hn12.ext (fun _ hb_ => by cases hb_)) hp14.only (fun b_ hb_ => .inr (by rw [List.mem_singleton.1 hb_]; exact (nt me3 hx11.size)))) hp17.only (fun b_ hb_ => .inr (by rw [List.mem_singleton.1 hb_]; exact (Nat.le_refl _)))), by rw [hx]; exact (((uRx.out hp9.only (fun c_ hc_ => .inr (by rw [List.mem_singleton.1 hc_]; exact (nt uR.hle hn1.ext.size)))).ext ((hx11.trans hn12.ext).then' hp14.only (by simp) hx11.size)).out hp17.only (fun c_ hc_ => .inr (by rw [List.mem_singleton.1 hc_]; exact (nt uR.hle (Nat.le_refl _)))))⟩
  refine Wk (Xt (Wq (Wg ?_)))
  refine Av ?_
  refine Ln (Xt (Wq (Wq (Wg ?_))))
  refine Lf 0 ?_
  refine Lb Tryz.underlying5 hk15 ?_
  refine Ly Yeq ?_
  refine Nx ?_
  refine Sd (fun t => ?_) fun t => ?_
  ·refine Wq (Wq ?_)
   by_cases eR : (dcr D f p (nB D p)).e = 0
   ·refine Wg ?_
    refine Mv ?_
    refine Lg Tryz.underlying71 hk15 ?_
    have me4 := nt (nt (nt (nt xR0.size hn1.ext.size) hn3.ext.size) ux1.size) uy.size
    have me5 := (me1.then' hp9.only (by simp) (nt xR0.size hn1.ext.size)).trans hx11
    have me6 := (me5.trans hn12.ext).then' hp14.only (by simp) (nt (nt me4 hp9.only.size) hx11.size)
    refine L_call (E_call (by kernel_rfl) rfl) (dec_recY hR0 me6 hlo hK hN hE ((uRx.out hp9.only (fun c_ hc_ => .inr (by rw [List.mem_singleton.1 hc_]; exact (nt uR.hle hn1.ext.size)))).ext ((hx11.trans hn12.ext).then' hp14.only (by simp) hx11.size)) (hk10.ext ((hx11.trans hn12.ext).then' hp14.only (by simp) hx11.size)) (nt uR.hle hn1.ext.size) hl hf eR) rfl rfl rfl ?_
    rintro _ h11 ⟨lv, h901, rfl, uy1, uy2, hq, uRr, hlv⟩
    refine Mx ?_
    refine A2 ?_
    refine Nx ?_
    refine Wu _ (tk8 8 10 9 6 5 4 3 2) ?_
    refine Wm ?_
    refine Ly Yne ?_
    refine Nx ?_
    refine W_known false rfl (by first | rfl | decide | simp) ?_
    refine Wk (Xt (Wq ?_))
    by_cases eH : nE D f (dq p (nB D p)) 0 = 0
    ·refine Wg ?_
     refine Mv ?_
     have me7 := (me6.then' uy1 ug (Nat.le_refl _)).then' uy2 (by simp) (nt xR0.size hn1.ext.size)
     refine Lc (dec_hdrY hR0 me7 hlo hG uRr hq (nt uR.hle hn1.ext.size) hl hf eH) ?_
     rintro _ h12 ⟨h902, rfl, uy3, uy4, hq2, uRh⟩
     refine Mx ?_
     have me8 := nt (nt (nt (nt hn1.ext.size hn3.ext.size) ux1.size) uy.size) hp9.only.size
     have hc19 := ((((hk15.only uy1 (fun hb_ => Nat.lt_irrefl _ (ntl (uR.lt2 _ hb_) (nt me8 hx11.size)))).only uy2 (ni_gt (ntl hk4.lt (nt (nt (nt ux1.size uy.size) hp9.only.size) hx11.size)))).only uy3 (fun hb_ => Nat.lt_irrefl _ (ntl (uR.lt2 _ hb_) (nt me8 hx11.size)))).only uy4 (ni_gt (ntl hk4.lt (nt (nt (nt ux1.size uy.size) hp9.only.size) hx11.size))))
     refine Lds [.int .u8 (udT (nB D (dq p (nB D p)))), str (udN (nB D (dq p (nB D p)))), str (udP (nB D (dq p (nB D p)))), str (udL (nB D (dq p (nB D p)))), .int .i64 (udM (nB D (dq p (nB D p)))), .int .i64 (udS (nB D (dq p (nB D p))))] hc19 ?_
     rintro h13 hp20
     have hk21 : Blk h13 h7.size [.int .u8 (udT (nB D (dq p (nB D p)))), str (udN (nB D (dq p (nB D p)))), str (udP (nB D (dq p (nB D p)))), str (udL (nB D (dq p (nB D p)))), .int .i64 (udM (nB D (dq p (nB D p)))), .int .i64 (udS (nB D (dq p (nB D p))))] := hp20.blk
     refine An ?_
     refine Wu _ (tk8 8 10 9 6 5 4 3 2) ?_
     refine Wb (Wq (Wg ?_))
     refine Mv ?_
     refine Ly Yeq ?_
     refine An ?_
     refine W_known false rfl (by exact decide_eq_false (by exact uderr_ne4)) ?_
     refine Wm ?_
     refine Ly Yne ?_
     refine An ?_
     refine Sd (fun u2 => ?_) fun u2 => ?_
     ·refine Wq ?_
      have hc22 := (hq2.only hp20.only (ni_lt (ntl hk4.lt (nt (nt (nt ux1.size uy.size) hp9.only.size) hx11.size))))
      refine W_held (fun h' => Blk h' h1.size [.pointer (some ⟨r, 0, none⟩), .int .i64 ((dq p (nB D p) : Int))]) 9 rfl (by kernel_rfl) ?_
      refine Ht 0 (fun h_ hI_ => Y_build (v := .agg #[.int .i64 0, str [], .int .i64 0, str [], .int .i64 0]) (pv := []) (evp (is := []) (os := []) (vs := []) rfl rfl) (fun _ => by kernel_rfl)) hc22 ?_
      refine Ht 1 (fun h_ hI_ => Y_move rfl) hc22 ?_
      refine Ht 2 (fun h_ hI_ => Y_nilCheck rfl) hc22 ?_
      refine Ht 3 (fun h_ hI_ => Y_fieldAddr (off := 1) (by kernel_rfl) rfl rfl) hc22 ?_
      refine Ht 4 (fun h_ hI_ => Y_ldblk Tryz.underlying2 rfl rfl hI_ rfl) hc22 ?_
      refine Ht 5 (fun h_ hI_ => Y_move rfl) hc22 ?_
      refine LH_one (i := 6) (by kernel_rfl) ?_
      have hc23 := ((((((((((((hk2.ext hn3.ext).ext ux1).only uy (fun hb_ => Nat.lt_irrefl _ (ntl (uR.lt2 _ hb_) (Nat.le_refl _)))).only hp9.only (ni_lt (ntl hk2.lt (Nat.le_refl _)))).ext hx11).ext hn12.ext).only hp14.only (ni_lt (ntl hk2.lt (nt (nt (nt (nt hn3.ext.size ux1.size) uy.size) hp9.only.size) hx11.size)))).only uy1 (fun hb_ => Nat.lt_irrefl _ (ntl (uR.lt2 _ hb_) (Nat.le_refl _)))).only uy2 (ni_lt (ntl hk2.lt (Nat.le_refl _)))).only uy3 (fun hb_ => Nat.lt_irrefl _ (ntl (uR.lt2 _ hb_) (Nat.le_refl _)))).only uy4 (ni_lt (ntl hk2.lt (Nat.le_refl _)))).only hp20.only (ni_lt (ntl hk2.lt (nt (nt (nt (nt hn3.ext.size ux1.size) uy.size) hp9.only.size) hx11.size))))
      refine LO_dos (i := 6) rfl (D_store (us := [.int .i64 0, str [], .int .i64 0, str [], .int .i64 0]) (show _ = some 5 by kernel_rfl) rfl rfl rfl (by simp [Value.oneCell']) hc23 (by simp)) rfl rfl ?_
      rintro h14 hp24
      have hc26 := (hc22.only hp24.only (ni_gt (ntl hk2.lt (Nat.le_refl _))))
      refine ⟨hc26, ?_⟩
      have hk25 : Blk h14 h.size [.int .i64 0, str [], .int .i64 0, str [], .int .i64 0] := hp24.blk
      refine Ht 7 (fun h_ hI_ => Y_assign rfl) hc26 ?_
      refine Ht 8 (fun h_ hI_ => Y_assign rfl) hc26 ?_
      refine LH_done (by kernel_rfl) ?_
      refine Xt ?_
      refine Wu _ (tk8 4 3 8 10 9 6 5 2) ?_
      refine Wt (Yr (Xr ?_))
      refine X_retv3 rfl (RVa Tryz.underlying37 hk25) rfl rfl ?_
      have hx := (dcd_x e0 z u t).trans (dcx_u eR eH u2)
      exact ⟨by rw [hx]; rfl, (Only.trans (Only.trans (Only.trans (Only.trans (Only.trans (Only.trans (Only.trans (Only.trans (Only.trans (Only.trans (Only.trans (Only.trans (Only.trans (Only.trans (Only.refl _ _) hn1.ext (fun _ hb_ => by cases hb_)) hn3.ext (fun _ hb_ => by cases hb_)) ux1 (fun _ hb_ => by cases hb_)) uy (fun b_ hb_ => .inl (by simp only [List.mem_cons, List.not_mem_nil, or_false] at hb_ ⊢; omega))) hp9.only (fun b_ hb_ => .inr (by rw [List.mem_singleton.1 hb_]; exact hn1.ext.size))) hx11 (fun _ hb_ => by cases hb_)) hn12.ext (fun _ hb_ => by cases hb_)) hp14.only (fun b_ hb_ => .inr (by rw [List.mem_singleton.1 hb_]; exact (nt me8 hx11.size)))) uy1 (fun b_ hb_ => .inl (by simp only [List.mem_cons, List.not_mem_nil, or_false] at hb_ ⊢; omega))) uy2 (fun b_ hb_ => .inr (by rw [List.mem_singleton.1 hb_]; exact hn1.ext.size))) uy3 (fun b_ hb_ => .inl (by simp only [List.mem_cons, List.not_mem_nil, or_false] at hb_ ⊢; omega))) uy4 (fun b_ hb_ => .inr (by rw [List.mem_singleton.1 hb_]; exact hn1.ext.size))) hp20.only (fun b_ hb_ => .inr (by rw [List.mem_singleton.1 hb_]; exact (nt me8 hx11.size)))) hp24.only (fun b_ hb_ => .inr (by rw [List.mem_singleton.1 hb_]; exact (Nat.le_refl _)))), by rw [hx]; exact ((uRh.out hp20.only (fun c_ hc_ => .inr (by rw [List.mem_singleton.1 hc_]; exact (nt uR.hle (nt me8 hx11.size))))).out hp24.only (fun c_ hc_ => .inr (by rw [List.mem_singleton.1 hc_]; exact (nt uR.hle (Nat.le_refl _)))))⟩
     refine Wk (Xb (Xt ?_))
     refine Wu _ (tk8 8 10 9 6 5 4 3 2) ?_
     have hU := ud_lens (nB D (dq p (nB D p)))
     have hUS := udS_rng (nB D (dq p (nB D p)))
     have hlb := dl_bnd (D := D) (p := p) (dcr_ok eR).1
     refine Wr ?_
     refine Lg Tryz.underlying71 hk21 ?_
     refine Mv ?_
     have me9 := nt (nt (nt (nt ux1.size uy.size) hp9.only.size) hx11.size) hn12.ext.size
     have me10 := (me7.then' uy3 ug (Nat.le_refl _)).then' uy4 (by simp) (nt xR0.size hn1.ext.size)
     have me11 := me10.then' hp20.only (by simp) (nt (nt me4 hp9.only.size) hx11.size)
     refine Lc (fit_Merge _ (hK.ext me11) (hN.ext me11) (hE.ext me11) (hT.ext me11) (hS.ext me11) (udT (nB D (dq p (nB D p)))) (udN (nB D (dq p (nB D p)))) (udP (nB D (dq p (nB D p)))) (udL (nB D (dq p (nB D p)))) (udM (nB D (dq p (nB D p)))) (udS (nB D (dq p (nB D p)))) lv ((dl D p (nB D p)).1) ((((RowsO.onlyL hlv nsRec uy3 (fun b_ hM_ => ntl (uR.lt2 _ hM_) (nt (nt (nt me8 hx11.size) hn12.ext.size) hp14.only.size))).only1 nsRec uy4 (ntl hk4.lt (nt me9 hp14.only.size))).only1 nsRec hp20.only (ntl hk13.lt hp14.only.size)).rows) (udT_rng _) (by omega) (by omega) (by omega) (by omega) (fun r_ hr_ => by have := hlb.2 r_ hr_; omega)) ?_
     rintro _ h15 ⟨rfl, hx27⟩
     refine Mx ?_
     refine L_mks (M_alloc (u := .agg #[.int .i64 0, str [], .int .i64 0, str [], .int .i64 0]) (by kernel_rfl)) rfl rfl rfl ?_
     rintro _ h16 ⟨rfl, hn28⟩
     have hk29 : Blk h16 h15.size [.int .i64 0, str [], .int .i64 0, str [], .int .i64 0] := hn28.blk
     refine Lds [.int .i64 (oI (mres (udT (nB D (dq p (nB D p)))) (udN (nB D (dq p (nB D p)))) (udP (nB D (dq p (nB D p)))) (udL (nB D (dq p (nB D p)))) (udM (nB D (dq p (nB D p)))) (udS (nB D (dq p (nB D p)))) ((dl D p (nB D p)).1)) (mkind (udT (nB D (dq p (nB D p)))))), str (oP (mres (udT (nB D (dq p (nB D p)))) (udN (nB D (dq p (nB D p)))) (udP (nB D (dq p (nB D p)))) (udL (nB D (dq p (nB D p)))) (udM (nB D (dq p (nB D p)))) (udS (nB D (dq p (nB D p)))) ((dl D p (nB D p)).1))), .int .i64 (oI (mres (udT (nB D (dq p (nB D p)))) (udN (nB D (dq p (nB D p)))) (udP (nB D (dq p (nB D p)))) (udL (nB D (dq p (nB D p)))) (udM (nB D (dq p (nB D p)))) (udS (nB D (dq p (nB D p)))) ((dl D p (nB D p)).1)) (udM (nB D (dq p (nB D p))))), str (oT (mres (udT (nB D (dq p (nB D p)))) (udN (nB D (dq p (nB D p)))) (udP (nB D (dq p (nB D p)))) (udL (nB D (dq p (nB D p)))) (udM (nB D (dq p (nB D p)))) (udS (nB D (dq p (nB D p)))) ((dl D p (nB D p)).1))), .int .i64 (oZ (mres (udT (nB D (dq p (nB D p)))) (udN (nB D (dq p (nB D p)))) (udP (nB D (dq p (nB D p)))) (udL (nB D (dq p (nB D p)))) (udM (nB D (dq p (nB D p)))) (udS (nB D (dq p (nB D p)))) ((dl D p (nB D p)).1)))] hk29 ?_
     rintro h17 hp30
     have hk31 : Blk h17 h15.size [.int .i64 (oI (mres (udT (nB D (dq p (nB D p)))) (udN (nB D (dq p (nB D p)))) (udP (nB D (dq p (nB D p)))) (udL (nB D (dq p (nB D p)))) (udM (nB D (dq p (nB D p)))) (udS (nB D (dq p (nB D p)))) ((dl D p (nB D p)).1)) (mkind (udT (nB D (dq p (nB D p)))))), str (oP (mres (udT (nB D (dq p (nB D p)))) (udN (nB D (dq p (nB D p)))) (udP (nB D (dq p (nB D p)))) (udL (nB D (dq p (nB D p)))) (udM (nB D (dq p (nB D p)))) (udS (nB D (dq p (nB D p)))) ((dl D p (nB D p)).1))), .int .i64 (oI (mres (udT (nB D (dq p (nB D p)))) (udN (nB D (dq p (nB D p)))) (udP (nB D (dq p (nB D p)))) (udL (nB D (dq p (nB D p)))) (udM (nB D (dq p (nB D p)))) (udS (nB D (dq p (nB D p)))) ((dl D p (nB D p)).1)) (udM (nB D (dq p (nB D p))))), str (oT (mres (udT (nB D (dq p (nB D p)))) (udN (nB D (dq p (nB D p)))) (udP (nB D (dq p (nB D p)))) (udL (nB D (dq p (nB D p)))) (udM (nB D (dq p (nB D p)))) (udS (nB D (dq p (nB D p)))) ((dl D p (nB D p)).1))), .int .i64 (oZ (mres (udT (nB D (dq p (nB D p)))) (udN (nB D (dq p (nB D p)))) (udP (nB D (dq p (nB D p)))) (udL (nB D (dq p (nB D p)))) (udM (nB D (dq p (nB D p)))) (udS (nB D (dq p (nB D p)))) ((dl D p (nB D p)).1)))] := hp30.blk
     refine An ?_
     refine Wu _ (tk7 8 11 6 5 4 3 2) ?_
     refine Wq (Wq (Wg ?_))
     refine Mv ?_
     refine Ly Yne ?_
     refine Nx ?_
     refine Sd (fun w => ?_) fun w => ?_
     ·refine Wq ?_
      have me12 := nt (nt (nt (nt me9 hp14.only.size) uy1.size) uy2.size) uy3.size
      have hc32 := ((((hq2.only hp20.only (ni_lt (ntl hk4.lt (nt (nt (nt ux1.size uy.size) hp9.only.size) hx11.size)))).ext hx27).ext hn28.ext).only hp30.only (ni_lt (ntl hk4.lt (nt (nt (nt me12 uy4.size) hp20.only.size) hx27.size))))
      refine W_held (fun h' => Blk h' h1.size [.pointer (some ⟨r, 0, none⟩), .int .i64 ((dq p (nB D p) : Int))]) 9 rfl (by kernel_rfl) ?_
      refine Ht 0 (fun h_ hI_ => Y_build (v := .agg #[.int .i64 0, str [], .int .i64 0, str [], .int .i64 0]) (pv := []) (evp (is := []) (os := []) (vs := []) rfl rfl) (fun _ => by kernel_rfl)) hc32 ?_
      refine Ht 1 (fun h_ hI_ => Y_move rfl) hc32 ?_
      refine Ht 2 (fun h_ hI_ => Y_nilCheck rfl) hc32 ?_
      refine Ht 3 (fun h_ hI_ => Y_fieldAddr (off := 1) (by kernel_rfl) rfl rfl) hc32 ?_
      refine Ht 4 (fun h_ hI_ => Y_ldblk Tryz.underlying2 rfl rfl hI_ rfl) hc32 ?_
      refine Ht 5 (fun h_ hI_ => Y_move rfl) hc32 ?_
      refine LH_one (i := 6) (by kernel_rfl) ?_
      have hc33 := (((((((((((((((hk2.ext hn3.ext).ext ux1).only uy (fun hb_ => Nat.lt_irrefl _ (ntl (uR.lt2 _ hb_) (Nat.le_refl _)))).only hp9.only (ni_lt (ntl hk2.lt (Nat.le_refl _)))).ext hx11).ext hn12.ext).only hp14.only (ni_lt (ntl hk2.lt (nt (nt (nt (nt hn3.ext.size ux1.size) uy.size) hp9.only.size) hx11.size)))).only uy1 (fun hb_ => Nat.lt_irrefl _ (ntl (uR.lt2 _ hb_) (Nat.le_refl _)))).only uy2 (ni_lt (ntl hk2.lt (Nat.le_refl _)))).only uy3 (fun hb_ => Nat.lt_irrefl _ (ntl (uR.lt2 _ hb_) (Nat.le_refl _)))).only uy4 (ni_lt (ntl hk2.lt (Nat.le_refl _)))).only hp20.only (ni_lt (ntl hk2.lt (nt (nt (nt (nt hn3.ext.size ux1.size) uy.size) hp9.only.size) hx11.size)))).ext hx27).ext hn28.ext).only hp30.only (ni_lt (ntl hk2.lt (nt (nt (nt (nt (nt (nt (nt (nt (nt (nt (nt (nt hn3.ext.size ux1.size) uy.size) hp9.only.size) hx11.size) hn12.ext.size) hp14.only.size) uy1.size) uy2.size) uy3.size) uy4.size) hp20.only.size) hx27.size))))
      refine LO_dos (i := 6) rfl (D_store (us := [.int .i64 0, str [], .int .i64 0, str [], .int .i64 0]) (show _ = some 5 by kernel_rfl) rfl rfl rfl (by simp [Value.oneCell']) hc33 (by simp)) rfl rfl ?_
      rintro h18 hp34
      have hc36 := (hc32.only hp34.only (ni_gt (ntl hk2.lt (Nat.le_refl _))))
      refine ⟨hc36, ?_⟩
      have hk35 : Blk h18 h.size [.int .i64 0, str [], .int .i64 0, str [], .int .i64 0] := hp34.blk
      refine Ht 7 (fun h_ hI_ => Y_assign rfl) hc36 ?_
      refine Ht 8 (fun h_ hI_ => Y_assign rfl) hc36 ?_
      refine LH_done (by kernel_rfl) ?_
      refine Xt ?_
      refine Wu _ (tk5 4 3 11 6 2) ?_
      refine Wt (Xr ?_)
      refine X_retv3 rfl (RVa Tryz.underlying37 hk35) rfl rfl ?_
      have hx := ((dcd_x e0 z u t).trans (dcx_m eR eH u2)).trans (dcm_n w)
      have me13 := nt (nt (nt (nt me8 hx11.size) hn12.ext.size) hp14.only.size) uy1.size
      have me14 := nt (nt (nt (nt me13 uy2.size) uy3.size) uy4.size) hp20.only.size
      exact ⟨by rw [hx]; rfl, (Only.trans (Only.trans (Only.trans (Only.trans (Only.trans (Only.trans (Only.trans (Only.trans (Only.trans (Only.trans (Only.trans (Only.trans (Only.trans (Only.trans (Only.trans (Only.trans (Only.trans (Only.refl _ _) hn1.ext (fun _ hb_ => by cases hb_)) hn3.ext (fun _ hb_ => by cases hb_)) ux1 (fun _ hb_ => by cases hb_)) uy (fun b_ hb_ => .inl (by simp only [List.mem_cons, List.not_mem_nil, or_false] at hb_ ⊢; omega))) hp9.only (fun b_ hb_ => .inr (by rw [List.mem_singleton.1 hb_]; exact hn1.ext.size))) hx11 (fun _ hb_ => by cases hb_)) hn12.ext (fun _ hb_ => by cases hb_)) hp14.only (fun b_ hb_ => .inr (by rw [List.mem_singleton.1 hb_]; exact (nt me8 hx11.size)))) uy1 (fun b_ hb_ => .inl (by simp only [List.mem_cons, List.not_mem_nil, or_false] at hb_ ⊢; omega))) uy2 (fun b_ hb_ => .inr (by rw [List.mem_singleton.1 hb_]; exact hn1.ext.size))) uy3 (fun b_ hb_ => .inl (by simp only [List.mem_cons, List.not_mem_nil, or_false] at hb_ ⊢; omega))) uy4 (fun b_ hb_ => .inr (by rw [List.mem_singleton.1 hb_]; exact hn1.ext.size))) hp20.only (fun b_ hb_ => .inr (by rw [List.mem_singleton.1 hb_]; exact (nt me8 hx11.size)))) hx27 (fun _ hb_ => by cases hb_)) hn28.ext (fun _ hb_ => by cases hb_)) hp30.only (fun b_ hb_ => .inr (by rw [List.mem_singleton.1 hb_]; exact (nt me14 hx27.size)))) hp34.only (fun b_ hb_ => .inr (by rw [List.mem_singleton.1 hb_]; exact (Nat.le_refl _)))), by rw [hx]; exact (((uRh.out hp20.only (fun c_ hc_ => .inr (by rw [List.mem_singleton.1 hc_]; exact (nt uR.hle (nt me8 hx11.size))))).ext ((hx27.trans hn28.ext).then' hp30.only (by simp) hx27.size)).out hp34.only (fun c_ hc_ => .inr (by rw [List.mem_singleton.1 hc_]; exact (nt uR.hle (Nat.le_refl _)))))⟩
     refine Wk (Xt (Wq (Wg ?_)))
     refine Lg Tryz.underlying37 hk31 ?_
     refine Mv ?_
     have me15 := nt (nt (nt (nt hn3.ext.size ux1.size) uy.size) hp9.only.size) hx11.size
     have me16 := nt (nt (nt (nt me15 hn12.ext.size) hp14.only.size) uy1.size) uy2.size
     have me17 := nt (nt (nt (nt me16 uy3.size) uy4.size) hp20.only.size) hx27.size
     have hc37 := (((((((((((((((hk2.ext hn3.ext).ext ux1).only uy (fun hb_ => Nat.lt_irrefl _ (ntl (uR.lt2 _ hb_) (Nat.le_refl _)))).only hp9.only (ni_lt (ntl hk2.lt (Nat.le_refl _)))).ext hx11).ext hn12.ext).only hp14.only (ni_lt (ntl hk2.lt me15))).only uy1 (fun hb_ => Nat.lt_irrefl _ (ntl (uR.lt2 _ hb_) (Nat.le_refl _)))).only uy2 (ni_lt (ntl hk2.lt (Nat.le_refl _)))).only uy3 (fun hb_ => Nat.lt_irrefl _ (ntl (uR.lt2 _ hb_) (Nat.le_refl _)))).only uy4 (ni_lt (ntl hk2.lt (Nat.le_refl _)))).only hp20.only (ni_lt (ntl hk2.lt me15))).ext hx27).ext hn28.ext).only hp30.only (ni_lt (ntl hk2.lt me17)))
     refine Lds [.int .i64 (oI (mres (udT (nB D (dq p (nB D p)))) (udN (nB D (dq p (nB D p)))) (udP (nB D (dq p (nB D p)))) (udL (nB D (dq p (nB D p)))) (udM (nB D (dq p (nB D p)))) (udS (nB D (dq p (nB D p)))) ((dl D p (nB D p)).1)) (mkind (udT (nB D (dq p (nB D p)))))), str (oP (mres (udT (nB D (dq p (nB D p)))) (udN (nB D (dq p (nB D p)))) (udP (nB D (dq p (nB D p)))) (udL (nB D (dq p (nB D p)))) (udM (nB D (dq p (nB D p)))) (udS (nB D (dq p (nB D p)))) ((dl D p (nB D p)).1))), .int .i64 (oI (mres (udT (nB D (dq p (nB D p)))) (udN (nB D (dq p (nB D p)))) (udP (nB D (dq p (nB D p)))) (udL (nB D (dq p (nB D p)))) (udM (nB D (dq p (nB D p)))) (udS (nB D (dq p (nB D p)))) ((dl D p (nB D p)).1)) (udM (nB D (dq p (nB D p))))), str (oT (mres (udT (nB D (dq p (nB D p)))) (udN (nB D (dq p (nB D p)))) (udP (nB D (dq p (nB D p)))) (udL (nB D (dq p (nB D p)))) (udM (nB D (dq p (nB D p)))) (udS (nB D (dq p (nB D p)))) ((dl D p (nB D p)).1))), .int .i64 (oZ (mres (udT (nB D (dq p (nB D p)))) (udN (nB D (dq p (nB D p)))) (udP (nB D (dq p (nB D p)))) (udL (nB D (dq p (nB D p)))) (udM (nB D (dq p (nB D p)))) (udS (nB D (dq p (nB D p)))) ((dl D p (nB D p)).1)))] hc37 ?_
     rintro h19 hp38
     have hk39 : Blk h19 h.size [.int .i64 (oI (mres (udT (nB D (dq p (nB D p)))) (udN (nB D (dq p (nB D p)))) (udP (nB D (dq p (nB D p)))) (udL (nB D (dq p (nB D p)))) (udM (nB D (dq p (nB D p)))) (udS (nB D (dq p (nB D p)))) ((dl D p (nB D p)).1)) (mkind (udT (nB D (dq p (nB D p)))))), str (oP (mres (udT (nB D (dq p (nB D p)))) (udN (nB D (dq p (nB D p)))) (udP (nB D (dq p (nB D p)))) (udL (nB D (dq p (nB D p)))) (udM (nB D (dq p (nB D p)))) (udS (nB D (dq p (nB D p)))) ((dl D p (nB D p)).1))), .int .i64 (oI (mres (udT (nB D (dq p (nB D p)))) (udN (nB D (dq p (nB D p)))) (udP (nB D (dq p (nB D p)))) (udL (nB D (dq p (nB D p)))) (udM (nB D (dq p (nB D p)))) (udS (nB D (dq p (nB D p)))) ((dl D p (nB D p)).1)) (udM (nB D (dq p (nB D p))))), str (oT (mres (udT (nB D (dq p (nB D p)))) (udN (nB D (dq p (nB D p)))) (udP (nB D (dq p (nB D p)))) (udL (nB D (dq p (nB D p)))) (udM (nB D (dq p (nB D p)))) (udS (nB D (dq p (nB D p)))) ((dl D p (nB D p)).1))), .int .i64 (oZ (mres (udT (nB D (dq p (nB D p)))) (udN (nB D (dq p (nB D p)))) (udP (nB D (dq p (nB D p)))) (udL (nB D (dq p (nB D p)))) (udM (nB D (dq p (nB D p)))) (udS (nB D (dq p (nB D p)))) ((dl D p (nB D p)).1)))] := hp38.blk
     refine A2 ?_
     refine Nx ?_
     refine Wu _ (tk3 4 3 2) ?_
     refine Wt ?_
     refine X_retv3 rfl (RVa Tryz.underlying37 hk39) rfl rfl ?_
     have hx := ((dcd_x e0 z u t).trans (dcx_m eR eH u2)).trans (dcm_y w)
     have me18 := nt (nt (nt (nt me8 hx11.size) hn12.ext.size) hp14.only.size) uy1.size
     have me19 := nt (nt (nt (nt me18 uy2.size) uy3.size) uy4.size) hp20.only.size
     exact ⟨by rw [hx]; rfl, (Only.trans (Only.trans (Only.trans (Only.trans (Only.trans (Only.trans (Only.trans (Only.trans (Only.trans (Only.trans (Only.trans (Only.trans (Only.trans (Only.trans (Only.trans (Only.trans (Only.trans (Only.refl _ _) hn1.ext (fun _ hb_ => by cases hb_)) hn3.ext (fun _ hb_ => by cases hb_)) ux1 (fun _ hb_ => by cases hb_)) uy (fun b_ hb_ => .inl (by simp only [List.mem_cons, List.not_mem_nil, or_false] at hb_ ⊢; omega))) hp9.only (fun b_ hb_ => .inr (by rw [List.mem_singleton.1 hb_]; exact hn1.ext.size))) hx11 (fun _ hb_ => by cases hb_)) hn12.ext (fun _ hb_ => by cases hb_)) hp14.only (fun b_ hb_ => .inr (by rw [List.mem_singleton.1 hb_]; exact (nt me8 hx11.size)))) uy1 (fun b_ hb_ => .inl (by simp only [List.mem_cons, List.not_mem_nil, or_false] at hb_ ⊢; omega))) uy2 (fun b_ hb_ => .inr (by rw [List.mem_singleton.1 hb_]; exact hn1.ext.size))) uy3 (fun b_ hb_ => .inl (by simp only [List.mem_cons, List.not_mem_nil, or_false] at hb_ ⊢; omega))) uy4 (fun b_ hb_ => .inr (by rw [List.mem_singleton.1 hb_]; exact hn1.ext.size))) hp20.only (fun b_ hb_ => .inr (by rw [List.mem_singleton.1 hb_]; exact (nt me8 hx11.size)))) hx27 (fun _ hb_ => by cases hb_)) hn28.ext (fun _ hb_ => by cases hb_)) hp30.only (fun b_ hb_ => .inr (by rw [List.mem_singleton.1 hb_]; exact (nt me19 hx27.size)))) hp38.only (fun b_ hb_ => .inr (by rw [List.mem_singleton.1 hb_]; exact (Nat.le_refl _)))), by rw [hx]; exact (((uRh.out hp20.only (fun c_ hc_ => .inr (by rw [List.mem_singleton.1 hc_]; exact (nt uR.hle (nt me8 hx11.size))))).ext ((hx27.trans hn28.ext).then' hp30.only (by simp) hx27.size)).out hp38.only (fun c_ hc_ => .inr (by rw [List.mem_singleton.1 hc_]; exact (nt uR.hle (Nat.le_refl _)))))⟩
    refine Wg ?_
    refine Mv ?_
    have me20 := (me6.then' uy1 ug (Nat.le_refl _)).then' uy2 (by simp) (nt xR0.size hn1.ext.size)
    refine Lc (dec_hdrN hR0 me20 hlo hG uRr hq (nt uR.hle hn1.ext.size) hl hf eH) ?_
    rintro _ h20 ⟨h903, rfl, uy5, uy6, hq3, uRh⟩
    refine Mx ?_
    have me21 := nt (nt (nt (nt hn1.ext.size hn3.ext.size) ux1.size) uy.size) hp9.only.size
    have hc40 := ((((hk15.only uy1 (fun hb_ => Nat.lt_irrefl _ (ntl (uR.lt2 _ hb_) (nt me21 hx11.size)))).only uy2 (ni_gt (ntl hk4.lt (nt (nt (nt ux1.size uy.size) hp9.only.size) hx11.size)))).only uy5 (fun hb_ => Nat.lt_irrefl _ (ntl (uR.lt2 _ hb_) (nt me21 hx11.size)))).only uy6 (ni_gt (ntl hk4.lt (nt (nt (nt ux1.size uy.size) hp9.only.size) hx11.size))))
    refine Lds [.int .u8 0, str [], str [], str [], .int .i64 0, .int .i64 0] hc40 ?_
    rintro h21 hp41
    have hk42 : Blk h21 h7.size [.int .u8 0, str [], str [], str [], .int .i64 0, .int .i64 0] := hp41.blk
    refine An ?_
    refine Wu _ (tk8 8 10 9 6 5 4 3 2) ?_
    refine Wb (Wq (Wg ?_))
    refine Mv ?_
    refine Ly Yeq ?_
    refine An ?_
    refine Sd (fun e4 => ?_) fun e4 => ?_
    ·refine Wq ?_
     have hc43 := (hq3.only hp41.only (ni_lt (ntl hk4.lt (nt (nt (nt ux1.size uy.size) hp9.only.size) hx11.size))))
     refine W_held (fun h' => Blk h' h1.size [.pointer (some ⟨r, 0, none⟩), .int .i64 ((nP D f (dq p (nB D p)) 0 : Int))]) 8 rfl (by kernel_rfl) ?_
     refine Ht 0 (fun h_ hI_ => Y_build (v := .agg #[.int .i64 0, str [], .int .i64 0, str [], .int .i64 0]) (pv := []) (evp (is := []) (os := []) (vs := []) rfl rfl) (fun _ => by kernel_rfl)) hc43 ?_
     refine Ht 1 (fun h_ hI_ => Y_move rfl) hc43 ?_
     refine Ht 2 (fun h_ hI_ => Y_nilCheck rfl) hc43 ?_
     refine Ht 3 (fun h_ hI_ => Y_fieldAddr (off := 1) (by kernel_rfl) rfl rfl) hc43 ?_
     refine Ht 4 (fun h_ hI_ => Y_ldblk Tryz.underlying2 rfl rfl hI_ rfl) hc43 ?_
     refine LH_one (i := 5) (by kernel_rfl) ?_
     have hc44 := ((((((((((((hk2.ext hn3.ext).ext ux1).only uy (fun hb_ => Nat.lt_irrefl _ (ntl (uR.lt2 _ hb_) (Nat.le_refl _)))).only hp9.only (ni_lt (ntl hk2.lt (Nat.le_refl _)))).ext hx11).ext hn12.ext).only hp14.only (ni_lt (ntl hk2.lt (nt (nt (nt (nt hn3.ext.size ux1.size) uy.size) hp9.only.size) hx11.size)))).only uy1 (fun hb_ => Nat.lt_irrefl _ (ntl (uR.lt2 _ hb_) (Nat.le_refl _)))).only uy2 (ni_lt (ntl hk2.lt (Nat.le_refl _)))).only uy5 (fun hb_ => Nat.lt_irrefl _ (ntl (uR.lt2 _ hb_) (Nat.le_refl _)))).only uy6 (ni_lt (ntl hk2.lt (Nat.le_refl _)))).only hp41.only (ni_lt (ntl hk2.lt (nt (nt (nt (nt hn3.ext.size ux1.size) uy.size) hp9.only.size) hx11.size))))
     refine LO_dos (i := 5) rfl (D_store (us := [.int .i64 0, str [], .int .i64 0, str [], .int .i64 0]) (show _ = some 5 by kernel_rfl) rfl rfl rfl (by simp [Value.oneCell']) hc44 (by simp)) rfl rfl ?_
     rintro h22 hp45
     have hc47 := (hc43.only hp45.only (ni_gt (ntl hk2.lt (Nat.le_refl _))))
     refine ⟨hc47, ?_⟩
     have hk46 : Blk h22 h.size [.int .i64 0, str [], .int .i64 0, str [], .int .i64 0] := hp45.blk
     refine Ht 6 (fun h_ hI_ => Y_assign rfl) hc47 ?_
     refine Ht 7 (fun h_ hI_ => Y_assign rfl) hc47 ?_
     refine LH_done (by kernel_rfl) ?_
     refine Xt ?_
     refine Wu _ (tk8 4 3 8 10 9 6 5 2) ?_
     refine Wt (Yr (Xr ?_))
     refine X_retv3 rfl (RVa Tryz.underlying37 hk46) rfl rfl ?_
     have hx := (dcd_x e0 z u t).trans (dcx_n eR eH)
     rw [if_pos e4] at hx
     exact ⟨by rw [hx]; rfl, (Only.trans (Only.trans (Only.trans (Only.trans (Only.trans (Only.trans (Only.trans (Only.trans (Only.trans (Only.trans (Only.trans (Only.trans (Only.trans (Only.trans (Only.refl _ _) hn1.ext (fun _ hb_ => by cases hb_)) hn3.ext (fun _ hb_ => by cases hb_)) ux1 (fun _ hb_ => by cases hb_)) uy (fun b_ hb_ => .inl (by simp only [List.mem_cons, List.not_mem_nil, or_false] at hb_ ⊢; omega))) hp9.only (fun b_ hb_ => .inr (by rw [List.mem_singleton.1 hb_]; exact hn1.ext.size))) hx11 (fun _ hb_ => by cases hb_)) hn12.ext (fun _ hb_ => by cases hb_)) hp14.only (fun b_ hb_ => .inr (by rw [List.mem_singleton.1 hb_]; exact (nt me21 hx11.size)))) uy1 (fun b_ hb_ => .inl (by simp only [List.mem_cons, List.not_mem_nil, or_false] at hb_ ⊢; omega))) uy2 (fun b_ hb_ => .inr (by rw [List.mem_singleton.1 hb_]; exact hn1.ext.size))) uy5 (fun b_ hb_ => .inl (by simp only [List.mem_cons, List.not_mem_nil, or_false] at hb_ ⊢; omega))) uy6 (fun b_ hb_ => .inr (by rw [List.mem_singleton.1 hb_]; exact hn1.ext.size))) hp41.only (fun b_ hb_ => .inr (by rw [List.mem_singleton.1 hb_]; exact (nt me21 hx11.size)))) hp45.only (fun b_ hb_ => .inr (by rw [List.mem_singleton.1 hb_]; exact (Nat.le_refl _)))), by rw [hx]; exact ((uRh.out hp41.only (fun c_ hc_ => .inr (by rw [List.mem_singleton.1 hc_]; exact (nt uR.hle (nt me21 hx11.size))))).out hp45.only (fun c_ hc_ => .inr (by rw [List.mem_singleton.1 hc_]; exact (nt uR.hle (Nat.le_refl _)))))⟩
    refine Wm ?_
    refine Ly Yne ?_
    refine An ?_
    refine W_known true rfl (by exact decide_eq_true (by exact eH)) ?_
    refine Wq ?_
    have hc48 := (hq3.only hp41.only (ni_lt (ntl hk4.lt (nt (nt (nt ux1.size uy.size) hp9.only.size) hx11.size))))
    refine W_held (fun h' => Blk h' h1.size [.pointer (some ⟨r, 0, none⟩), .int .i64 ((nP D f (dq p (nB D p)) 0 : Int))]) 9 rfl (by kernel_rfl) ?_
    refine Ht 0 (fun h_ hI_ => Y_build (v := .agg #[.int .i64 0, str [], .int .i64 0, str [], .int .i64 0]) (pv := []) (evp (is := []) (os := []) (vs := []) rfl rfl) (fun _ => by kernel_rfl)) hc48 ?_
    refine Ht 1 (fun h_ hI_ => Y_move rfl) hc48 ?_
    refine Ht 2 (fun h_ hI_ => Y_nilCheck rfl) hc48 ?_
    refine Ht 3 (fun h_ hI_ => Y_fieldAddr (off := 1) (by kernel_rfl) rfl rfl) hc48 ?_
    refine Ht 4 (fun h_ hI_ => Y_ldblk Tryz.underlying2 rfl rfl hI_ rfl) hc48 ?_
    refine Ht 5 (fun h_ hI_ => Y_move rfl) hc48 ?_
    refine LH_one (i := 6) (by kernel_rfl) ?_
    have hc49 := ((((((((((((hk2.ext hn3.ext).ext ux1).only uy (fun hb_ => Nat.lt_irrefl _ (ntl (uR.lt2 _ hb_) (Nat.le_refl _)))).only hp9.only (ni_lt (ntl hk2.lt (Nat.le_refl _)))).ext hx11).ext hn12.ext).only hp14.only (ni_lt (ntl hk2.lt (nt (nt (nt (nt hn3.ext.size ux1.size) uy.size) hp9.only.size) hx11.size)))).only uy1 (fun hb_ => Nat.lt_irrefl _ (ntl (uR.lt2 _ hb_) (Nat.le_refl _)))).only uy2 (ni_lt (ntl hk2.lt (Nat.le_refl _)))).only uy5 (fun hb_ => Nat.lt_irrefl _ (ntl (uR.lt2 _ hb_) (Nat.le_refl _)))).only uy6 (ni_lt (ntl hk2.lt (Nat.le_refl _)))).only hp41.only (ni_lt (ntl hk2.lt (nt (nt (nt (nt hn3.ext.size ux1.size) uy.size) hp9.only.size) hx11.size))))
    refine LO_dos (i := 6) rfl (D_store (us := [.int .i64 0, str [], .int .i64 0, str [], .int .i64 0]) (show _ = some 5 by kernel_rfl) rfl rfl rfl (by simp [Value.oneCell']) hc49 (by simp)) rfl rfl ?_
    rintro h23 hp50
    have hc52 := (hc48.only hp50.only (ni_gt (ntl hk2.lt (Nat.le_refl _))))
    refine ⟨hc52, ?_⟩
    have hk51 : Blk h23 h.size [.int .i64 0, str [], .int .i64 0, str [], .int .i64 0] := hp50.blk
    refine Ht 7 (fun h_ hI_ => Y_assign rfl) hc52 ?_
    refine Ht 8 (fun h_ hI_ => Y_assign rfl) hc52 ?_
    refine LH_done (by kernel_rfl) ?_
    refine Xt ?_
    refine Wu _ (tk8 4 3 8 10 9 6 5 2) ?_
    refine Wt (Yr (Xr ?_))
    refine X_retv3 rfl (RVa Tryz.underlying37 hk51) rfl rfl ?_
    have hx := (dcd_x e0 z u t).trans (dcx_n eR eH)
    rw [if_neg e4] at hx
    exact ⟨by rw [hx]; rfl, (Only.trans (Only.trans (Only.trans (Only.trans (Only.trans (Only.trans (Only.trans (Only.trans (Only.trans (Only.trans (Only.trans (Only.trans (Only.trans (Only.trans (Only.refl _ _) hn1.ext (fun _ hb_ => by cases hb_)) hn3.ext (fun _ hb_ => by cases hb_)) ux1 (fun _ hb_ => by cases hb_)) uy (fun b_ hb_ => .inl (by simp only [List.mem_cons, List.not_mem_nil, or_false] at hb_ ⊢; omega))) hp9.only (fun b_ hb_ => .inr (by rw [List.mem_singleton.1 hb_]; exact hn1.ext.size))) hx11 (fun _ hb_ => by cases hb_)) hn12.ext (fun _ hb_ => by cases hb_)) hp14.only (fun b_ hb_ => .inr (by rw [List.mem_singleton.1 hb_]; exact (nt me21 hx11.size)))) uy1 (fun b_ hb_ => .inl (by simp only [List.mem_cons, List.not_mem_nil, or_false] at hb_ ⊢; omega))) uy2 (fun b_ hb_ => .inr (by rw [List.mem_singleton.1 hb_]; exact hn1.ext.size))) uy5 (fun b_ hb_ => .inl (by simp only [List.mem_cons, List.not_mem_nil, or_false] at hb_ ⊢; omega))) uy6 (fun b_ hb_ => .inr (by rw [List.mem_singleton.1 hb_]; exact hn1.ext.size))) hp41.only (fun b_ hb_ => .inr (by rw [List.mem_singleton.1 hb_]; exact (nt me21 hx11.size)))) hp50.only (fun b_ hb_ => .inr (by rw [List.mem_singleton.1 hb_]; exact (Nat.le_refl _)))), by rw [hx]; exact ((uRh.out hp41.only (fun c_ hc_ => .inr (by rw [List.mem_singleton.1 hc_]; exact (nt uR.hle (nt me21 hx11.size))))).out hp50.only (fun c_ hc_ => .inr (by rw [List.mem_singleton.1 hc_]; exact (nt uR.hle (Nat.le_refl _)))))⟩
   refine Wg ?_
   refine Mv ?_
   refine Lg Tryz.underlying71 hk15 ?_
   have me22 := nt (nt (nt (nt xR0.size hn1.ext.size) hn3.ext.size) ux1.size) uy.size
   have me23 := (me1.then' hp9.only (by simp) (nt xR0.size hn1.ext.size)).trans hx11
   have me24 := (me23.trans hn12.ext).then' hp14.only (by simp) (nt (nt me22 hp9.only.size) hx11.size)
   refine L_call (E_call (by kernel_rfl) rfl) (dec_recN hR0 me24 hlo hK hN hE ((uRx.out hp9.only (fun c_ hc_ => .inr (by rw [List.mem_singleton.1 hc_]; exact (nt uR.hle hn1.ext.size)))).ext ((hx11.trans hn12.ext).then' hp14.only (by simp) hx11.size)) (hk10.ext ((hx11.trans hn12.ext).then' hp14.only (by simp) hx11.size)) (nt uR.hle hn1.ext.size) hl hf eR) rfl rfl rfl ?_
   rintro _ h24 ⟨lv, h904, rfl, uy1, uy2, hq, uRr⟩
   refine Mx ?_
   refine A2 ?_
   refine Nx ?_
   refine Wu _ (tk8 8 10 9 6 5 4 3 2) ?_
   refine Wm ?_
   refine Ly Yne ?_
   refine Nx ?_
   refine W_known true rfl (by exact decide_eq_true (by exact eR)) ?_
   refine Wq ?_
   refine W_held (fun h' => Blk h' h1.size [.pointer (some ⟨r, 0, none⟩), .int .i64 ((dcr D f p (nB D p)).n)]) 9 rfl (by kernel_rfl) ?_
   refine Ht 0 (fun h_ hI_ => Y_build (v := .agg #[.int .i64 0, str [], .int .i64 0, str [], .int .i64 0]) (pv := []) (evp (is := []) (os := []) (vs := []) rfl rfl) (fun _ => by kernel_rfl)) hq ?_
   refine Ht 1 (fun h_ hI_ => Y_move rfl) hq ?_
   refine Ht 2 (fun h_ hI_ => Y_nilCheck rfl) hq ?_
   refine Ht 3 (fun h_ hI_ => Y_fieldAddr (off := 1) (by kernel_rfl) rfl rfl) hq ?_
   refine Ht 4 (fun h_ hI_ => Y_ldblk Tryz.underlying2 rfl rfl hI_ rfl) hq ?_
   refine Ht 5 (fun h_ hI_ => Y_move rfl) hq ?_
   refine LH_one (i := 6) (by kernel_rfl) ?_
   have hc53 := (((((((((hk2.ext hn3.ext).ext ux1).only uy (fun hb_ => Nat.lt_irrefl _ (ntl (uR.lt2 _ hb_) (Nat.le_refl _)))).only hp9.only (ni_lt (ntl hk2.lt (Nat.le_refl _)))).ext hx11).ext hn12.ext).only hp14.only (ni_lt (ntl hk2.lt (nt (nt (nt (nt hn3.ext.size ux1.size) uy.size) hp9.only.size) hx11.size)))).only uy1 (fun hb_ => Nat.lt_irrefl _ (ntl (uR.lt2 _ hb_) (Nat.le_refl _)))).only uy2 (ni_lt (ntl hk2.lt (Nat.le_refl _))))
   refine LO_dos (i := 6) rfl (D_store (us := [.int .i64 0, str [], .int .i64 0, str [], .int .i64 0]) (show _ = some 5 by kernel_rfl) rfl rfl rfl (by simp [Value.oneCell']) hc53 (by simp)) rfl rfl ?_
   rintro h25 hp54
   have hc56 := (hq.only hp54.only (ni_gt (ntl hk2.lt (Nat.le_refl _))))
   refine ⟨hc56, ?_⟩
   have hk55 : Blk h25 h.size [.int .i64 0, str [], .int .i64 0, str [], .int .i64 0] := hp54.blk
   refine Ht 7 (fun h_ hI_ => Y_assign rfl) hc56 ?_
   refine Ht 8 (fun h_ hI_ => Y_assign rfl) hc56 ?_
   refine LH_done (by kernel_rfl) ?_
   refine Xt ?_
   refine Wu _ (tk8 4 3 8 10 9 6 5 2) ?_
   refine Wt (Xr (Xr ?_))
   refine X_retv3 rfl (RVa Tryz.underlying37 hk55) rfl rfl ?_
   have hx := (dcd_x e0 z u t).trans (dcx_r eR)
   have me25 := nt (nt (nt (nt hn1.ext.size hn3.ext.size) ux1.size) uy.size) hp9.only.size
   exact ⟨by rw [hx, dout_dcr], (Only.trans (Only.trans (Only.trans (Only.trans (Only.trans (Only.trans (Only.trans (Only.trans (Only.trans (Only.trans (Only.trans (Only.refl _ _) hn1.ext (fun _ hb_ => by cases hb_)) hn3.ext (fun _ hb_ => by cases hb_)) ux1 (fun _ hb_ => by cases hb_)) uy (fun b_ hb_ => .inl (by simp only [List.mem_cons, List.not_mem_nil, or_false] at hb_ ⊢; omega))) hp9.only (fun b_ hb_ => .inr (by rw [List.mem_singleton.1 hb_]; exact hn1.ext.size))) hx11 (fun _ hb_ => by cases hb_)) hn12.ext (fun _ hb_ => by cases hb_)) hp14.only (fun b_ hb_ => .inr (by rw [List.mem_singleton.1 hb_]; exact (nt me25 hx11.size)))) uy1 (fun b_ hb_ => .inl (by simp only [List.mem_cons, List.not_mem_nil, or_false] at hb_ ⊢; omega))) uy2 (fun b_ hb_ => .inr (by rw [List.mem_singleton.1 hb_]; exact hn1.ext.size))) hp54.only (fun b_ hb_ => .inr (by rw [List.mem_singleton.1 hb_]; exact (Nat.le_refl _)))), by rw [hx]; exact (uRr.out hp54.only (fun c_ hc_ => .inr (by rw [List.mem_singleton.1 hc_]; exact (nt uR.hle (Nat.le_refl _)))))⟩
  refine Ws ?_
  have hU := ud_lens (nB D p)
  have hUS := udS_rng (nB D p)
  refine Wr ?_
  refine Lg Tryz.underlying71 hk15 ?_
  refine Mv ?_
  have me26 := nt (nt (nt (nt xR0.size hn1.ext.size) hn3.ext.size) ux1.size) uy.size
  have me27 := (me1.then' hp9.only (by simp) (nt xR0.size hn1.ext.size)).trans hx11
  have me28 := (me27.trans hn12.ext).then' hp14.only (by simp) (nt (nt me26 hp9.only.size) hx11.size)
  refine Lc (fit_Merge _ (hK.ext me28) (hN.ext me28) (hE.ext me28) (hT.ext me28) (hS.ext me28) (udT (nB D p)) (udN (nB D p)) (udP (nB D p)) (udL (nB D p)) (udM (nB D p)) (udS (nB D p)) (.slice none 0 0) ([] : List Rec) (Rows.nil recS _) (udT_rng _) (by omega) (by omega) (by omega) (by simp) (fun r_ hr_ => absurd hr_ List.not_mem_nil)) ?_
  rintro _ h26 ⟨rfl, hx57⟩
  refine Mx ?_
  refine L_mks (M_alloc (u := .agg #[.int .i64 0, str [], .int .i64 0, str [], .int .i64 0]) (by kernel_rfl)) rfl rfl rfl ?_
  rintro _ h27 ⟨rfl, hn58⟩
  have hk59 : Blk h27 h26.size [.int .i64 0, str [], .int .i64 0, str [], .int .i64 0] := hn58.blk
  refine Lds [.int .i64 (oI (mres (udT (nB D p)) (udN (nB D p)) (udP (nB D p)) (udL (nB D p)) (udM (nB D p)) (udS (nB D p)) ([] : List Rec)) (mkind (udT (nB D p)))), str (oP (mres (udT (nB D p)) (udN (nB D p)) (udP (nB D p)) (udL (nB D p)) (udM (nB D p)) (udS (nB D p)) ([] : List Rec))), .int .i64 (oI (mres (udT (nB D p)) (udN (nB D p)) (udP (nB D p)) (udL (nB D p)) (udM (nB D p)) (udS (nB D p)) ([] : List Rec)) (udM (nB D p))), str (oT (mres (udT (nB D p)) (udN (nB D p)) (udP (nB D p)) (udL (nB D p)) (udM (nB D p)) (udS (nB D p)) ([] : List Rec))), .int .i64 (oZ (mres (udT (nB D p)) (udN (nB D p)) (udP (nB D p)) (udL (nB D p)) (udM (nB D p)) (udS (nB D p)) ([] : List Rec)))] hk59 ?_
  rintro h28 hp60
  have hk61 : Blk h28 h26.size [.int .i64 (oI (mres (udT (nB D p)) (udN (nB D p)) (udP (nB D p)) (udL (nB D p)) (udM (nB D p)) (udS (nB D p)) ([] : List Rec)) (mkind (udT (nB D p)))), str (oP (mres (udT (nB D p)) (udN (nB D p)) (udP (nB D p)) (udL (nB D p)) (udM (nB D p)) (udS (nB D p)) ([] : List Rec))), .int .i64 (oI (mres (udT (nB D p)) (udN (nB D p)) (udP (nB D p)) (udL (nB D p)) (udM (nB D p)) (udS (nB D p)) ([] : List Rec)) (udM (nB D p))), str (oT (mres (udT (nB D p)) (udN (nB D p)) (udP (nB D p)) (udL (nB D p)) (udM (nB D p)) (udS (nB D p)) ([] : List Rec))), .int .i64 (oZ (mres (udT (nB D p)) (udN (nB D p)) (udP (nB D p)) (udL (nB D p)) (udM (nB D p)) (udS (nB D p)) ([] : List Rec)))] := hp60.blk
  refine An ?_
  refine Wu _ (tk7 8 11 6 5 4 3 2) ?_
  refine Wq (Wq (Wg ?_))
  refine Mv ?_
  refine Ly Yne ?_
  refine Nx ?_
  refine Sd (fun w => ?_) fun w => ?_
  ·refine Wq ?_
   have me29 := nt (nt (nt hx11.size hn12.ext.size) hp14.only.size) hx57.size
   have me30 := ((hx11.trans hn12.ext).then' hp14.only (by simp) hx11.size).trans hx57
   have hc62 := (hk10.ext ((me30.trans hn58.ext).then' hp60.only (by simp) me29))
   refine W_held (fun h' => Blk h' h1.size [.pointer (some ⟨r, 0, none⟩), .int .i64 ((p : Int))]) 9 rfl (by kernel_rfl) ?_
   refine Ht 0 (fun h_ hI_ => Y_build (v := .agg #[.int .i64 0, str [], .int .i64 0, str [], .int .i64 0]) (pv := []) (evp (is := []) (os := []) (vs := []) rfl rfl) (fun _ => by kernel_rfl)) hc62 ?_
   refine Ht 1 (fun h_ hI_ => Y_move rfl) hc62 ?_
   refine Ht 2 (fun h_ hI_ => Y_nilCheck rfl) hc62 ?_
   refine Ht 3 (fun h_ hI_ => Y_fieldAddr (off := 1) (by kernel_rfl) rfl rfl) hc62 ?_
   refine Ht 4 (fun h_ hI_ => Y_ldblk Tryz.underlying2 rfl rfl hI_ rfl) hc62 ?_
   refine Ht 5 (fun h_ hI_ => Y_move rfl) hc62 ?_
   refine LH_one (i := 6) (by kernel_rfl) ?_
   have hc63 := ((((((((((hk2.ext hn3.ext).ext ux1).only uy (fun hb_ => Nat.lt_irrefl _ (ntl (uR.lt2 _ hb_) (Nat.le_refl _)))).only hp9.only (ni_lt (ntl hk2.lt (Nat.le_refl _)))).ext hx11).ext hn12.ext).only hp14.only (ni_lt (ntl hk2.lt (nt (nt (nt (nt hn3.ext.size ux1.size) uy.size) hp9.only.size) hx11.size)))).ext hx57).ext hn58.ext).only hp60.only (ni_lt (ntl hk2.lt (nt (nt (nt (nt (nt (nt (nt hn3.ext.size ux1.size) uy.size) hp9.only.size) hx11.size) hn12.ext.size) hp14.only.size) hx57.size))))
   refine LO_dos (i := 6) rfl (D_store (us := [.int .i64 0, str [], .int .i64 0, str [], .int .i64 0]) (show _ = some 5 by kernel_rfl) rfl rfl rfl (by simp [Value.oneCell']) hc63 (by simp)) rfl rfl ?_
   rintro h29 hp64
   have hc66 := (hc62.only hp64.only (ni_gt (ntl hk2.lt (Nat.le_refl _))))
   refine ⟨hc66, ?_⟩
   have hk65 : Blk h29 h.size [.int .i64 0, str [], .int .i64 0, str [], .int .i64 0] := hp64.blk
   refine Ht 7 (fun h_ hI_ => Y_assign rfl) hc66 ?_
   refine Ht 8 (fun h_ hI_ => Y_assign rfl) hc66 ?_
   refine LH_done (by kernel_rfl) ?_
   refine Xt ?_
   refine Wu _ (tk5 4 3 11 6 2) ?_
   refine Wt (Xr ?_)
   refine X_retv3 rfl (RVa Tryz.underlying37 hk65) rfl rfl ?_
   have hx := (dcd_m e0 z u t).trans (dcm_n w)
   have me31 := nt (nt (nt (nt hn1.ext.size hn3.ext.size) ux1.size) uy.size) hp9.only.size
   have me32 := nt (nt (nt (nt me31 hx11.size) hn12.ext.size) hp14.only.size) hx57.size
   exact ⟨by rw [hx]; rfl, (Only.trans (Only.trans (Only.trans (Only.trans (Only.trans (Only.trans (Only.trans (Only.trans (Only.trans (Only.trans (Only.trans (Only.trans (Only.refl _ _) hn1.ext (fun _ hb_ => by cases hb_)) hn3.ext (fun _ hb_ => by cases hb_)) ux1 (fun _ hb_ => by cases hb_)) uy (fun b_ hb_ => .inl (by simp only [List.mem_cons, List.not_mem_nil, or_false] at hb_ ⊢; omega))) hp9.only (fun b_ hb_ => .inr (by rw [List.mem_singleton.1 hb_]; exact hn1.ext.size))) hx11 (fun _ hb_ => by cases hb_)) hn12.ext (fun _ hb_ => by cases hb_)) hp14.only (fun b_ hb_ => .inr (by rw [List.mem_singleton.1 hb_]; exact (nt me31 hx11.size)))) hx57 (fun _ hb_ => by cases hb_)) hn58.ext (fun _ hb_ => by cases hb_)) hp60.only (fun b_ hb_ => .inr (by rw [List.mem_singleton.1 hb_]; exact me32))) hp64.only (fun b_ hb_ => .inr (by rw [List.mem_singleton.1 hb_]; exact (Nat.le_refl _)))), by rw [hx]; exact (((uRx.out hp9.only (fun c_ hc_ => .inr (by rw [List.mem_singleton.1 hc_]; exact (nt uR.hle hn1.ext.size)))).ext ((me30.trans hn58.ext).then' hp60.only (by simp) me29)).out hp64.only (fun c_ hc_ => .inr (by rw [List.mem_singleton.1 hc_]; exact (nt uR.hle (Nat.le_refl _)))))⟩
  refine Wk (Xt (Wq (Wg ?_)))
  refine Lg Tryz.underlying37 hk61 ?_
  refine Mv ?_
  have me33 := nt (nt (nt (nt hn3.ext.size ux1.size) uy.size) hp9.only.size) hx11.size
  have hc67 := ((((((((((hk2.ext hn3.ext).ext ux1).only uy (fun hb_ => Nat.lt_irrefl _ (ntl (uR.lt2 _ hb_) (Nat.le_refl _)))).only hp9.only (ni_lt (ntl hk2.lt (Nat.le_refl _)))).ext hx11).ext hn12.ext).only hp14.only (ni_lt (ntl hk2.lt me33))).ext hx57).ext hn58.ext).only hp60.only (ni_lt (ntl hk2.lt (nt (nt (nt me33 hn12.ext.size) hp14.only.size) hx57.size))))
  refine Lds [.int .i64 (oI (mres (udT (nB D p)) (udN (nB D p)) (udP (nB D p)) (udL (nB D p)) (udM (nB D p)) (udS (nB D p)) ([] : List Rec)) (mkind (udT (nB D p)))), str (oP (mres (udT (nB D p)) (udN (nB D p)) (udP (nB D p)) (udL (nB D p)) (udM (nB D p)) (udS (nB D p)) ([] : List Rec))), .int .i64 (oI (mres (udT (nB D p)) (udN (nB D p)) (udP (nB D p)) (udL (nB D p)) (udM (nB D p)) (udS (nB D p)) ([] : List Rec)) (udM (nB D p))), str (oT (mres (udT (nB D p)) (udN (nB D p)) (udP (nB D p)) (udL (nB D p)) (udM (nB D p)) (udS (nB D p)) ([] : List Rec))), .int .i64 (oZ (mres (udT (nB D p)) (udN (nB D p)) (udP (nB D p)) (udL (nB D p)) (udM (nB D p)) (udS (nB D p)) ([] : List Rec)))] hc67 ?_
  rintro h30 hp68
  have hk69 : Blk h30 h.size [.int .i64 (oI (mres (udT (nB D p)) (udN (nB D p)) (udP (nB D p)) (udL (nB D p)) (udM (nB D p)) (udS (nB D p)) ([] : List Rec)) (mkind (udT (nB D p)))), str (oP (mres (udT (nB D p)) (udN (nB D p)) (udP (nB D p)) (udL (nB D p)) (udM (nB D p)) (udS (nB D p)) ([] : List Rec))), .int .i64 (oI (mres (udT (nB D p)) (udN (nB D p)) (udP (nB D p)) (udL (nB D p)) (udM (nB D p)) (udS (nB D p)) ([] : List Rec)) (udM (nB D p))), str (oT (mres (udT (nB D p)) (udN (nB D p)) (udP (nB D p)) (udL (nB D p)) (udM (nB D p)) (udS (nB D p)) ([] : List Rec))), .int .i64 (oZ (mres (udT (nB D p)) (udN (nB D p)) (udP (nB D p)) (udL (nB D p)) (udM (nB D p)) (udS (nB D p)) ([] : List Rec)))] := hp68.blk
  refine A2 ?_
  refine Nx ?_
  refine Wu _ (tk3 4 3 2) ?_
  refine Wt ?_
  refine X_retv3 rfl (RVa Tryz.underlying37 hk69) rfl rfl ?_
  have hx := (dcd_m e0 z u t).trans (dcm_y w)
  have me34 := ((hx11.trans hn12.ext).then' hp14.only (by simp) hx11.size).trans hx57
  have me35 := nt (nt (nt hx11.size hn12.ext.size) hp14.only.size) hx57.size
  have me36 := nt (nt (nt (nt hn1.ext.size hn3.ext.size) ux1.size) uy.size) hp9.only.size
  have me37 := nt (nt (nt (nt me36 hx11.size) hn12.ext.size) hp14.only.size) hx57.size
  exact ⟨by rw [hx]; rfl, (Only.trans (Only.trans (Only.trans (Only.trans (Only.trans (Only.trans (Only.trans (Only.trans (Only.trans (Only.trans (Only.trans (Only.trans (Only.refl _ _) hn1.ext (fun _ hb_ => by cases hb_)) hn3.ext (fun _ hb_ => by cases hb_)) ux1 (fun _ hb_ => by cases hb_)) uy (fun b_ hb_ => .inl (by simp only [List.mem_cons, List.not_mem_nil, or_false] at hb_ ⊢; omega))) hp9.only (fun b_ hb_ => .inr (by rw [List.mem_singleton.1 hb_]; exact hn1.ext.size))) hx11 (fun _ hb_ => by cases hb_)) hn12.ext (fun _ hb_ => by cases hb_)) hp14.only (fun b_ hb_ => .inr (by rw [List.mem_singleton.1 hb_]; exact (nt me36 hx11.size)))) hx57 (fun _ hb_ => by cases hb_)) hn58.ext (fun _ hb_ => by cases hb_)) hp60.only (fun b_ hb_ => .inr (by rw [List.mem_singleton.1 hb_]; exact me37))) hp68.only (fun b_ hb_ => .inr (by rw [List.mem_singleton.1 hb_]; exact (Nat.le_refl _)))), by rw [hx]; exact (((uRx.out hp9.only (fun c_ hc_ => .inr (by rw [List.mem_singleton.1 hc_]; exact (nt uR.hle hn1.ext.size)))).ext ((me34.trans hn58.ext).then' hp60.only (by simp) me35)).out hp68.only (fun c_ hc_ => .inr (by rw [List.mem_singleton.1 hc_]; exact (nt uR.hle (Nat.le_refl _)))))⟩
 refine Wg ?_
 refine Mv ?_
 refine Lc (rd_NextN (uR.ext ((hn1.ext.trans hn3.ext).trans ux1)) e0 hl hf) ?_
 rintro _ h31 ⟨rfl, uy, uRx⟩
 refine Mx ?_
 refine A2 ?_
 refine Ln (Xt (Wq (Wb (Wq (Wg ?_)))))
 refine Mv ?_
 refine Ly Yne ?_
 refine An ?_
 refine Wu _ (sk1 25 rfl (tk8 8 7 6 5 4 3 2 0)) ?_
 refine W_known true rfl (by exact decide_eq_true (by exact e0)) ?_
 refine Wr ?_
 refine Ly (Yb (.agg #[.int .i64 0, str [], .int .i64 0, str [], .int .i64 0]) [] [] []) ?_
 refine Mv ?_
 refine Lc (rd_Off uRx) ?_
 rintro _ h32 ⟨rfl, ux2⟩
 refine Mv ?_
 have hc70 := ((((hk2.ext hn3.ext).ext ux1).only uy (fun hb_ => Nat.lt_irrefl _ (ntl (uR.lt2 _ hb_) (Nat.le_refl _)))).ext ux2)
 refine Lds [.int .i64 0, str [], .int .i64 0, str [], .int .i64 0] hc70 ?_
 rintro h33 hp71
 have hk72 : Blk h33 h.size [.int .i64 0, str [], .int .i64 0, str [], .int .i64 0] := hp71.blk
 refine A2 ?_
 refine Nx ?_
 refine Wu _ (tk7 4 3 8 7 6 5 2) ?_
 refine Wt (Yr (Xr ?_))
 refine X_retv3 rfl (RVa Tryz.underlying37 hk72) rfl rfl ?_
 have hx := dcd_n e0
 exact ⟨by rw [hx]; rfl, (Only.trans (Only.trans (Only.trans (Only.trans (Only.trans (Only.trans (Only.refl _ _) hn1.ext (fun _ hb_ => by cases hb_)) hn3.ext (fun _ hb_ => by cases hb_)) ux1 (fun _ hb_ => by cases hb_)) uy (fun b_ hb_ => .inl (by simp only [List.mem_cons, List.not_mem_nil, or_false] at hb_ ⊢; omega))) ux2 (fun _ hb_ => by cases hb_)) hp71.only (fun b_ hb_ => .inr (by rw [List.mem_singleton.1 hb_]; exact (Nat.le_refl _)))), by rw [hx]; exact ((uRx.ext ux2).out hp71.only (fun c_ hc_ => .inr (by rw [List.mem_singleton.1 hc_]; exact (nt uR.hle (Nat.le_refl _)))))⟩
end Go.Xp
