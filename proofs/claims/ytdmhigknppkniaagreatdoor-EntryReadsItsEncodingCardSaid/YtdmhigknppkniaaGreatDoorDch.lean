/- Layer 12 (entry): the decoder's second header. -/
import Derived.Test.YtdmhigknppkniaaGreatDoorPay
import Derived.Test.YtdmhigknppkniaaGreatDoorDcd
set_option linter.unusedSimpArgs false
set_option linter.unusedVariables false
set_option linter.unusedSectionVars false
namespace Go.Xp
open Go.Proofs

/-- A write into a list of blocks and one more: first the list, then the one. -/
theorem Only.halve {l : List Nat} {d : Nat} {h h' : Heap} (y : Only (l ++ [d]) h h') (hd : d < h.size) : ∃ hm, Only l h hm ∧ Only [d] hm h' := by
  refine ⟨h'.setIfInBounds d h[d], ⟨by rw [Array.size_setIfInBounds]; exact y.size, fun k hk hn => ?_⟩, ⟨by rw [Array.size_setIfInBounds]; exact Nat.le_refl _, fun k hk hn => ?_⟩⟩
  · by_cases c : d = k
    · subst c
      rw [Array.getElem?_setIfInBounds_self_of_lt (ntl hd y.size), Array.getElem?_eq_getElem hd]
    · rw [Array.getElem?_setIfInBounds_ne c]
      exact y.same k hk (fun q => by rcases List.mem_append.1 q with q | q; exact hn q; exact c (List.mem_singleton.1 q).symm)
  · have c : d ≠ k := fun e => hn (by rw [e]; simp)
    rw [Array.getElem?_setIfInBounds_ne c]
theorem RowsO.onlyL {β : Type} {S : Sch β} {h h' : Heap} {base : Nat} {bs : List Nat} {v : Value} {l : List β} (x : RowsO S h base v l) (ns : NoSl S) (y : Only bs h h') (hB : ∀ b ∈ bs, b < base) : RowsO S h' base v l :=
  ⟨Own.only x.1 y (fun b hb hm => Nat.lt_irrefl _ (ntl (hB b hm) (Own.lt x.1 b hb).1)), fun a ha => S.only (x.2 a ha) y (fun u hu b hb => by rw [ns a u hu] at hb; cases hb)⟩
set_option maxRecDepth 100000 in
theorem dec_header (h : Heap) (d : Nat) (lo hi r s : Nat) (D : List UInt8) (f : Int) (p : Nat) (uR : RdA lo hi h r s D f p 0) (n : Int) (hd : Blk h d [.pointer (some ⟨r, 0, none⟩), .int .i64 n]) (hdh : hi ≤ d) (hl : D.length ≤ 100000000000) (hf : -9223372036854775808 ≤ f ∧ f ≤ 9223372036854775807) (hR0 : Heap) (xR0 : Ext hR0 h) (hlo : hR0.size ≤ lo) (hG : Glb hR0) : Cal Tryz.prog 24 #[.pointer (some ⟨d, 0, none⟩)] h (fun v h' => (¬ nE D f p 0 = 0 ∧ v = .tuple #[.agg #[.int .u8 0, str [], str [], str [], .int .i64 0, .int .i64 0], .int .i64 (nE D f p 0)] ∧ Only [r, s, d] h h' ∧ Blk h' d [.pointer (some ⟨r, 0, none⟩), .int .i64 (nP D f p 0 : Int)] ∧ RdA lo hi h' r s D f (nP D f p 0) (nE D f p 0)) ∨ (nE D f p 0 = 0 ∧ v = .tuple #[.agg #[.int .u8 (udT (nB D p)), str (udN (nB D p)), str (udP (nB D p)), str (udL (nB D p)), .int .i64 (udM (nB D p)), .int .i64 (udS (nB D p))], .int .i64 (uderr (nB D p))] ∧ Only [r, s, d] h h' ∧ Blk h' d [.pointer (some ⟨r, 0, none⟩), .int .i64 (p : Int)] ∧ RdA lo hi h' r s D f (p + 512) 0)) := by
 have hdn := uR.no hdh
 have ug : ∀ c ∈ [r, s], hR0.size ≤ c := fun c hc => nt hlo (uR.ge2 c hc)
 have hRd : hR0.size ≤ d := by have := uR.ge2 r (by simp); have := uR.rg; omega
 have hp := uR.src.le
 refine Cal_enter (args := [.pointer (some ⟨d, 0, none⟩)]) Tryz.func24 rfl rfl rfl (fun σ => ?_)
 refine Wr ?_
 refine L_mks (M_alloc (u := .agg #[.int .u8 0, str [], str [], str [], .int .i64 0, .int .i64 0]) (by kernel_rfl)) rfl rfl rfl ?_
 rintro _ h1 ⟨rfl, hn1⟩
 have hk2 : Blk h1 h.size [.int .u8 0, str [], str [], str [], .int .i64 0, .int .i64 0] := hn1.blk
 refine Av ?_
 refine Ln (Xt (Wq (Wg ?_)))
 refine Mv ?_
 refine Ly (Y_nilCheck rfl) ?_
 refine Lf 0 ?_
 refine Lb Tryz.underlying27 (hd.ext hn1.ext) ?_
 refine Lc (rd_Off (uR.ext hn1.ext)) ?_
 rintro _ h2 ⟨rfl, ux1⟩
 refine Av ?_
 refine Ln (Xt (Wq ?_))
 by_cases e0 : nE D f p 0 = 0
 ·refine Wg ?_
  refine Mv ?_
  refine Ly (Y_nilCheck rfl) ?_
  refine Lf 0 ?_
  refine Lb Tryz.underlying27 (hd.ext (hn1.ext.trans ux1)) ?_
  refine Lc (rd_NextO (uR.ext (hn1.ext.trans ux1)) e0 hl hf) ?_
  rintro _ h3 ⟨uvx, rfl, uLx, uy, uRx⟩
  refine Mv ?_
  refine Lx ?_
  refine Lx ?_
  refine A2 ?_
  refine Nx ?_
  refine Wu _ (tk6 6 5 4 3 2 0) ?_
  refine Wq (Wq (Wg ?_))
  refine Mv ?_
  refine Ly (Y_neq rfl rfl) ?_
  refine Nx ?_
  refine W_known false rfl (by first | rfl | decide | simp) ?_
  refine Ws ?_
  have hlnB : (nB D p).length ≤ 512 := by unfold nB; rw [List.length_take]; omega
  refine Wm ?_
  refine Mv ?_
  refine Ly (Y_nilCheck rfl) ?_
  refine Lf 1 ?_
  have hc3 := (((hd.ext hn1.ext).ext ux1).only uy hdn)
  refine Lds [.int .i64 ((p : Int))] hc3 ?_
  rintro h4 hp4
  have hk5 : Blk h4 d [.pointer (some ⟨r, 0, none⟩), .int .i64 ((p : Int))] := hp4.blk
  refine Nx ?_
  refine Wu _ (tk3 5 3 2) ?_
  refine Wm ?_
  have me1 := ((xR0.trans hn1.ext).trans ux1).then' uy ug (Nat.le_refl _)
  refine Lc (ustar_Decode _ (hG.ext (me1.then' hp4.only (by simp) hRd)) uvx (nB D p) ((uLx.only1 hp4.only (ntl hd.lt (nt hn1.ext.size ux1.size))).bytes) (by first | omega | rfl | (simp <;> omega))) ?_
  rintro _ h5 ⟨rfl, hx6⟩
  refine Lx ?_
  refine Lx ?_
  have hc7 := ((((hk2.ext ux1).only uy (fun hb_ => Nat.lt_irrefl _ (ntl (uR.lt2 _ hb_) (Nat.le_refl _)))).only hp4.only (ni_gt (ntl hd.lt (Nat.le_refl _)))).ext hx6)
  refine Lds [.int .u8 (udT (nB D p)), str (udN (nB D p)), str (udP (nB D p)), str (udL (nB D p)), .int .i64 (udM (nB D p)), .int .i64 (udS (nB D p))] hc7 ?_
  rintro h6 hp8
  have hk9 : Blk h6 h.size [.int .u8 (udT (nB D p)), str (udN (nB D p)), str (udP (nB D p)), str (udL (nB D p)), .int .i64 (udM (nB D p)), .int .i64 (udS (nB D p))] := hp8.blk
  refine Av ?_
  refine Ln (Xt (Wt ?_))
  refine X_retv2 rfl (RV.agg rfl Tryz.underlying71 rfl (show _ = some 6 by kernel_rfl) hk9) rfl ?_
  have hc10 := ((hk5.ext hx6).only hp8.only (ni_lt (ntl hd.lt (Nat.le_refl _))))
  exact .inr ⟨e0, rfl, (Only.trans (Only.trans (Only.trans (Only.trans (Only.trans (Only.trans (Only.refl _ _) hn1.ext (fun _ hb_ => by cases hb_)) ux1 (fun _ hb_ => by cases hb_)) uy (fun b_ hb_ => .inl (by simp only [List.mem_cons, List.not_mem_nil, or_false] at hb_ ⊢; omega))) hp4.only (fun b_ hb_ => .inl (by rw [List.mem_singleton.1 hb_]; simp))) hx6 (fun _ hb_ => by cases hb_)) hp8.only (fun b_ hb_ => .inr (by rw [List.mem_singleton.1 hb_]; exact (Nat.le_refl _)))), hc10, (((uRx.out hp4.only (fun c_ hc_ => .inr (by rw [List.mem_singleton.1 hc_]; exact hdh))).ext hx6).out hp8.only (fun c_ hc_ => .inr (by rw [List.mem_singleton.1 hc_]; exact (nt uR.hle (Nat.le_refl _)))))⟩
 refine Wg ?_
 refine Mv ?_
 refine Ly (Y_nilCheck rfl) ?_
 refine Lf 0 ?_
 refine Lb Tryz.underlying27 (hd.ext (hn1.ext.trans ux1)) ?_
 refine Lc (rd_NextN (uR.ext (hn1.ext.trans ux1)) e0 hl hf) ?_
 rintro _ h7 ⟨rfl, uy, uRx⟩
 refine Mv ?_
 refine Lx ?_
 refine Lx ?_
 refine A2 ?_
 refine Nx ?_
 refine Wu _ (tk6 6 5 4 3 2 0) ?_
 refine Wq (Wq (Wg ?_))
 refine Mv ?_
 refine Ly (Y_neq rfl rfl) ?_
 refine Nx ?_
 refine W_known true rfl (by exact decide_eq_true (by exact e0)) ?_
 refine Wm ?_
 refine Mv ?_
 refine Ly (Y_nilCheck rfl) ?_
 refine Lf 0 ?_
 have hc11 := (((hd.ext hn1.ext).ext ux1).only uy hdn)
 refine Lb Tryz.underlying27 hc11 ?_
 refine Lc (rd_Off uRx) ?_
 rintro _ h8 ⟨rfl, ux2⟩
 refine Ly (Y_nilCheck rfl) ?_
 refine Lf 1 ?_
 refine Lds [.int .i64 ((nP D f p 0 : Int))] (hc11.ext ux2) ?_
 rintro h9 hp12
 have hk13 : Blk h9 d [.pointer (some ⟨r, 0, none⟩), .int .i64 ((nP D f p 0 : Int))] := hp12.blk
 refine Nx ?_
 refine Wu _ (tk6 6 5 4 3 2 0) ?_
 refine Wr ?_
 refine Ly (Y_build (v := .agg #[.int .u8 0, str [], str [], str [], .int .i64 0, .int .i64 0]) (pv := []) (evp (is := []) (os := []) (vs := []) rfl rfl) (fun _ => by kernel_rfl)) ?_
 refine Mv ?_
 have hc14 := ((((hk2.ext ux1).only uy (fun hb_ => Nat.lt_irrefl _ (ntl (uR.lt2 _ hb_) (Nat.le_refl _)))).ext ux2).only hp12.only (ni_gt (ntl hd.lt (Nat.le_refl _))))
 refine Lds [.int .u8 0, str [], str [], str [], .int .i64 0, .int .i64 0] hc14 ?_
 rintro h10 hp15
 have hk16 : Blk h10 h.size [.int .u8 0, str [], str [], str [], .int .i64 0, .int .i64 0] := hp15.blk
 refine Av ?_
 refine Ln (Xt (Wt (Xr ?_)))
 refine X_retv2 rfl (RV.agg rfl Tryz.underlying71 rfl (show _ = some 6 by kernel_rfl) hk16) rfl ?_
 have hc17 := (hk13.only hp15.only (ni_lt (ntl hd.lt (Nat.le_refl _))))
 exact .inl ⟨e0, rfl, (Only.trans (Only.trans (Only.trans (Only.trans (Only.trans (Only.trans (Only.refl _ _) hn1.ext (fun _ hb_ => by cases hb_)) ux1 (fun _ hb_ => by cases hb_)) uy (fun b_ hb_ => .inl (by simp only [List.mem_cons, List.not_mem_nil, or_false] at hb_ ⊢; omega))) ux2 (fun _ hb_ => by cases hb_)) hp12.only (fun b_ hb_ => .inl (by rw [List.mem_singleton.1 hb_]; simp))) hp15.only (fun b_ hb_ => .inr (by rw [List.mem_singleton.1 hb_]; exact (Nat.le_refl _)))), hc17, (((uRx.ext ux2).out hp12.only (fun c_ hc_ => .inr (by rw [List.mem_singleton.1 hc_]; exact hdh))).out hp15.only (fun c_ hc_ => .inr (by rw [List.mem_singleton.1 hc_]; exact (nt uR.hle (Nat.le_refl _)))))⟩
end Go.Xp
