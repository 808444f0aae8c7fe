/- The reference of layer 12 (entry): Decode: what it computes. -/
import Derived.Test.YtdmhigknppkniaaGreatDoorPab
import Derived.Test.YtdmhigknppkniaaGreatDoorDch
import Derived.Test.YtdmhigknppkniaaGreatDoorParseR
import Derived.Test.YtdmhigknppkniaaGreatDoorMergeR
set_option linter.unusedSimpArgs false
set_option linter.unusedVariables false
set_option linter.unusedSectionVars false
set_option maxRecDepth 100000
namespace Go.Xp
open Go.Proofs

theorem xhd_of2 {b : List UInt8} (hq : udT b = 120 ∧ udN b = [112, 97, 120] ∧ udP b = [] ∧ udL b = [] ∧ udM b = 0) (s1 : ¬ udS b < 1) (s2 : ¬ 262144 < udS b) : xhd b := ⟨hq, by omega, by omega⟩
theorem dcrb_x {D : List UInt8} {f : Int} {p : Nat} {b : List UInt8} (h : ¬ xhd b) : dcr D f p b = dz p 17 (p + 512) 0 := if_pos h
theorem dcrb_p {D : List UInt8} {f : Int} {p : Nat} {b : List UInt8} (h : xhd b) (e : ¬ pE D f (p + 512) (dk b) = 0) : dcr D f p b = dz (pP D f (p + 512) (dk b)) (pE D f (p + 512) (dk b)) (pP D f (p + 512) (dk b)) (pR D f (p + 512) (dk b)) := by
  unfold dcr; rw [if_neg (fun q => q h), if_pos e]
theorem dcrb_z {D : List UInt8} {f : Int} {p : Nat} {b : List UInt8} (h : xhd b) (e : pE D f (p + 512) (dk b) = 0) (n : 0 ≤ nzx ((dx D p b).drop (udS b).toNat)) : dcr D f p b = dz ((p : Int) + 512 + udS b + nzx ((dx D p b).drop (udS b).toNat)) 10 (dq p b) 0 := by
  unfold dcr; rw [if_neg (fun q => q h), if_neg (fun q => q e), if_pos n]
theorem dcrb_l {D : List UInt8} {f : Int} {p : Nat} {b : List UInt8} (h : xhd b) (e : pE D f (p + 512) (dk b) = 0) (n : ¬ 0 ≤ nzx ((dx D p b).drop (udS b).toNat)) : dcr D f p b = dz ((p : Int) + 512 + (dl D p b).2.1) (dl D p b).2.2 (dq p b) 0 := by
  unfold dcr; rw [if_neg (fun q => q h), if_neg (fun q => q e), if_neg n]
  by_cases c : (dl D p b).2.2 = 0
  · rw [if_neg (fun q => q c), c]
  · rw [if_pos c]
theorem ref12_records (h : Heap) (lo hi r s : Nat) (D : List UInt8) (f : Int) (p : Nat) (uR : RdB lo hi h r s D f (p + 512) 0) (b : List UInt8) (hl : D.length ≤ 100000000000) (hf : -9223372036854775808 ≤ f ∧ f ≤ 9223372036854775807) : Cal Tryz.prog 29 #[.pointer (some ⟨r, 0, none⟩), .agg #[.int .u8 (udT b), str (udN b), str (udP b), str (udL b), .int .i64 (udM b), .int .i64 (udS b)], .int .i64 ((p : Int))] h (fun v h' => ∃ lv, v = .tuple #[lv, .int .i64 (if (dcr D f p b).e = 0 then 0 else (dcr D f p b).n), .int .i64 (dcr D f p b).e] ∧ Only [r, s] h h' ∧ RdB lo hi h' r s D f (dcr D f p b).pos (dcr D f p b).er ∧ ((dcr D f p b).e = 0 → RowsO recS h' h.size lv (dl D p b).1)) := by
 have hp := uR.src.le
 have hpc : ((p + 512 : Nat) : Int) = (p : Int) + 512 := by omega
 refine Ce Tryz.func29 fun σ => ?_
 refine Wr ?_
 refine L_mks (M_box rfl) rfl rfl rfl ?_
 rintro _ h1 ⟨rfl, hn1⟩
 have hk2 : Blk h1 h.size [.int .u8 (udT b), str (udN b), str (udP b), str (udL b), .int .i64 (udM b), .int .i64 (udS b)] := hn1.blk
 refine A2 ?_
 refine Av ?_
 refine Ln (Xt (Wq ?_))
 by_cases hq : udT b = 120 ∧ udN b = [112, 97, 120] ∧ udP b = [] ∧ udL b = [] ∧ udM b = 0
 ·by_cases s1 : udS b < 1
  ·refine Wr ?_
   refine Lg Tryz.underlying82 hk2 ?_
   refine Lf 5 ?_
   refine Lb Tryz.underlying2 hk2 ?_
   refine Ly (Yb (.agg #[.int .u8 120, str [112, 97, 120], str [], str [], .int .i64 0, .int .i64 (udS b)]) [0, 1, 5] [.const (.int .u8 120), .const (str [112, 97, 120]), .tmp 16] [.int .u8 120, str [112, 97, 120], .int .i64 (udS b)]) ?_
   refine Ly (Y_decneg (Y_stneq (xs := [.int .u8 (udT b), str (udN b), str (udP b), str (udL b), .int .i64 (udM b), .int .i64 (udS b)]) (ys := [.int .u8 120, str [112, 97, 120], str [], str [], .int .i64 0, .int .i64 (udS b)]) (r := decide ((udT b) = (120 : Int) ∧ (udN b) = [112, 97, 120] ∧ (udP b) = [] ∧ (udL b) = [] ∧ (udM b) = (0 : Int) ∧ (udS b) = (udS b))) (by kernel_rfl) (by kernel_rfl) (by kernel_rfl) rfl rfl (steq (ks := [.i .u8, .s, .s, .s, .i .i64, .i .i64]) (by kernel_rfl) (by simp [eqks, eqk])))) ?_
   refine Mv ?_
   refine L_known (d := 19) false rfl (by exact decide_eq_false (by obtain ⟨a1, a2, a3, a4, a5⟩ := hq; simp [a1, a2, a3, a4, a5])) ?_
   refine Lf 5 ?_
   refine Lb Tryz.underlying2 hk2 ?_
   refine Ly Yls ?_
   refine Ly Ypf ?_
   refine Mv ?_
   refine L_known (d := 24) true rfl (by exact decide_eq_true (by exact s1)) ?_
   refine Sk2 ?_
   refine Skp ?_
   refine Ly Ypt ?_
   refine Nx ?_
   refine Wu _ (tk7 28 8 7 6 4 0 2) ?_
   refine W_true rfl ?_
   refine Wm ?_
   refine A2 ?_
   refine Av ?_
   refine Ln (Xt (Wt (Xr ?_)))
   refine Xv3 ?_
   have hx := dcrb_x (D := D) (f := f) (p := p) (b := b) (fun q => by have := q.2.1; omega)
   exact ⟨.slice none 0 0, by rw [hx]; rfl, (Only.trans (Only.refl _ _) hn1.ext (fun _ hb_ => by cases hb_)), by rw [hx]; exact (uR.ext hn1.ext), fun q => by rw [hx] at q; cases q⟩
  by_cases s2 : 262144 < udS b
  ·refine Wr ?_
   refine Lg Tryz.underlying82 hk2 ?_
   refine Lf 5 ?_
   refine Lb Tryz.underlying2 hk2 ?_
   refine Ly (Yb (.agg #[.int .u8 120, str [112, 97, 120], str [], str [], .int .i64 0, .int .i64 (udS b)]) [0, 1, 5] [.const (.int .u8 120), .const (str [112, 97, 120]), .tmp 16] [.int .u8 120, str [112, 97, 120], .int .i64 (udS b)]) ?_
   refine Ly (Y_decneg (Y_stneq (xs := [.int .u8 (udT b), str (udN b), str (udP b), str (udL b), .int .i64 (udM b), .int .i64 (udS b)]) (ys := [.int .u8 120, str [112, 97, 120], str [], str [], .int .i64 0, .int .i64 (udS b)]) (r := decide ((udT b) = (120 : Int) ∧ (udN b) = [112, 97, 120] ∧ (udP b) = [] ∧ (udL b) = [] ∧ (udM b) = (0 : Int) ∧ (udS b) = (udS b))) (by kernel_rfl) (by kernel_rfl) (by kernel_rfl) rfl rfl (steq (ks := [.i .u8, .s, .s, .s, .i .i64, .i .i64]) (by kernel_rfl) (by simp [eqks, eqk])))) ?_
   refine Mv ?_
   refine L_known (d := 19) false rfl (by exact decide_eq_false (by obtain ⟨a1, a2, a3, a4, a5⟩ := hq; simp [a1, a2, a3, a4, a5])) ?_
   refine Lf 5 ?_
   refine Lb Tryz.underlying2 hk2 ?_
   refine Ly Yls ?_
   refine Ly Ypf ?_
   refine Mv ?_
   refine L_known (d := 24) false rfl (by exact decide_eq_false (by exact s1)) ?_
   refine Lf 5 ?_
   refine Lb Tryz.underlying2 hk2 ?_
   refine Ly (Y_gtr rfl rfl) ?_
   refine Ly Ypf ?_
   refine Nx ?_
   refine Wu _ (tk7 28 8 7 6 4 0 2) ?_
   refine W_known true rfl (by exact decide_eq_true (by exact s2)) ?_
   refine Wm ?_
   refine A2 ?_
   refine Av ?_
   refine Ln (Xt (Wt (Xr ?_)))
   refine Xv3 ?_
   have hx := dcrb_x (D := D) (f := f) (p := p) (b := b) (fun q => by have := q.2.2; omega)
   exact ⟨.slice none 0 0, by rw [hx]; rfl, (Only.trans (Only.refl _ _) hn1.ext (fun _ hb_ => by cases hb_)), by rw [hx]; exact (uR.ext hn1.ext), fun q => by rw [hx] at q; cases q⟩
  refine Wr ?_
  refine Lg Tryz.underlying82 hk2 ?_
  refine Lf 5 ?_
  refine Lb Tryz.underlying2 hk2 ?_
  refine Ly (Yb (.agg #[.int .u8 120, str [112, 97, 120], str [], str [], .int .i64 0, .int .i64 (udS b)]) [0, 1, 5] [.const (.int .u8 120), .const (str [112, 97, 120]), .tmp 16] [.int .u8 120, str [112, 97, 120], .int .i64 (udS b)]) ?_
  refine Ly (Y_decneg (Y_stneq (xs := [.int .u8 (udT b), str (udN b), str (udP b), str (udL b), .int .i64 (udM b), .int .i64 (udS b)]) (ys := [.int .u8 120, str [112, 97, 120], str [], str [], .int .i64 0, .int .i64 (udS b)]) (r := decide ((udT b) = (120 : Int) ∧ (udN b) = [112, 97, 120] ∧ (udP b) = [] ∧ (udL b) = [] ∧ (udM b) = (0 : Int) ∧ (udS b) = (udS b))) (by kernel_rfl) (by kernel_rfl) (by kernel_rfl) rfl rfl (steq (ks := [.i .u8, .s, .s, .s, .i .i64, .i .i64]) (by kernel_rfl) (by simp [eqks, eqk])))) ?_
  refine Mv ?_
  refine L_known (d := 19) false rfl (by exact decide_eq_false (by obtain ⟨a1, a2, a3, a4, a5⟩ := hq; simp [a1, a2, a3, a4, a5])) ?_
  refine Lf 5 ?_
  refine Lb Tryz.underlying2 hk2 ?_
  refine Ly Yls ?_
  refine Ly Ypf ?_
  refine Mv ?_
  refine L_known (d := 24) false rfl (by exact decide_eq_false (by exact s1)) ?_
  refine Lf 5 ?_
  refine Lb Tryz.underlying2 hk2 ?_
  refine Ly (Y_gtr rfl rfl) ?_
  refine Ly Ypf ?_
  refine Nx ?_
  refine Wu _ (tk7 28 8 7 6 4 0 2) ?_
  refine W_known false rfl (by exact decide_eq_false (by exact s2)) ?_
  refine Wk (Xt (Wq ?_))
  by_cases pe : pE D f (p + 512) (dk b) = 0
  ·by_cases z0 : 0 ≤ nzx ((dx D p b).drop (udS b).toNat)
   ·refine Wg ?_
    refine Mv ?_
    refine Lf 5 ?_
    refine Lb Tryz.underlying2 hk2 ?_
    refine L_call (E_call (by kernel_rfl) rfl) (pab_Z (uR.ext hn1.ext) hl hf (by omega) pe z0) rfl rfl rfl ?_
    rintro _ h2 ⟨rfl, uy, uRx⟩
    refine Mx ?_
    refine Lx ?_
    refine A2 ?_
    refine An ?_
    refine Wu _ (tk7 11 10 9 8 7 6 2) ?_
    refine Wq (Wq (Wg ?_))
    refine Mv ?_
    refine Ly Yne ?_
    refine Nx ?_
    refine W_known true rfl (by first | rfl | decide | simp) ?_
    refine Wm ?_
    refine Mv ?_
    refine A2 ?_
    refine Av ?_
    refine Ln (Xt (Wt (Xr ?_)))
    refine Xv3 ?_
    have hx := dcrb_z (xhd_of2 hq s1 s2) pe z0
    exact ⟨.slice none 0 0, by rw [hx, hpc]; rfl, (Only.trans (Only.trans (Only.refl _ _) hn1.ext (fun _ hb_ => by cases hb_)) uy (fun b_ hb_ => .inl (by simp only [List.mem_cons, List.not_mem_nil, or_false] at hb_ ⊢; omega))), by rw [hx]; exact uRx, fun q => by rw [hx] at q; cases q⟩
   refine Wg ?_
   refine Mv ?_
   refine Lf 5 ?_
   refine Lb Tryz.underlying2 hk2 ?_
   refine L_call (E_call (by kernel_rfl) rfl) (pab_Y (uR.ext hn1.ext) hl hf (by omega) pe z0) rfl rfl rfl ?_
   rintro _ h3 ⟨uvb, rfl, uLb, uy, uRx⟩
   refine Mx ?_
   refine Lx ?_
   refine A2 ?_
   refine An ?_
   refine Wu _ (tk7 11 10 9 8 7 6 2) ?_
   refine Wq (Wq (Wg ?_))
   refine Mv ?_
   refine Ly Yne ?_
   refine Nx ?_
   refine W_known false rfl (by first | rfl | decide | simp) ?_
   refine Ws ?_
   have hk9 := nblk_rng (z := udS b) (by omega)
   have hlb : ((dx D p b).take (udS b).toNat).length ≤ 262144 := by rw [List.length_take]; omega
   have hpa := (pres_at ((dx D p b).take (udS b).toNat)).1
   refine Wm ?_
   refine Lc (ref09_Parse _ uvb ((dx D p b).take (udS b).toNat) uLb (by omega)) ?_
   rintro _ h4 ⟨s03, rfl, hr04, hx5⟩
   refine Mx ?_
   refine Lx ?_
   refine A2 ?_
   refine An ?_
   refine Wu _ (tk7 11 13 12 8 7 6 2) ?_
   refine Wq (Wq (Wg ?_))
   refine Mv ?_
   refine Ly Yne ?_
   refine Nx ?_
   refine Sd (fun pz => ?_) fun pz => ?_
   ·refine Wm ?_
    refine Lad ?_
    refine Mv ?_
    refine Lad ?_
    refine Mv ?_
    refine A2 ?_
    refine An ?_
    refine Wu _ (tk4 8 7 6 12) ?_
    refine Wt (Xr ?_)
    refine Xv3 ?_
    have hx := dcrb_l (xhd_of2 hq s1 s2) pe z0
    exact ⟨.slice none 0 0, by rw [hx]; exact congrArg (fun x_ => Value.tuple #[.slice none 0 0, .int .i64 x_, .int .i64 (dl D p b).2.2]) (if_neg pz).symm, (Only.trans (Only.trans (Only.trans (Only.refl _ _) hn1.ext (fun _ hb_ => by cases hb_)) uy (fun b_ hb_ => .inl (by simp only [List.mem_cons, List.not_mem_nil, or_false] at hb_ ⊢; omega))) hx5 (fun _ hb_ => by cases hb_)), by rw [hx]; exact (uRx.ext hx5), fun q => by rw [hx] at q; exact absurd q pz⟩
   refine Wk (Xt (Wq (Wg ?_)))
   refine Mv ?_
   refine A2 ?_
   refine An ?_
   refine Wu _ (tk3 8 7 6) ?_
   refine Wt ?_
   refine Xv3 ?_
   have hx := dcrb_l (xhd_of2 hq s1 s2) pe z0
   have pz' : (dl D p b).2.2 = 0 := Classical.not_not.1 pz
   exact ⟨_, by rw [hx]; show _ = Value.tuple #[_, .int .i64 (if (dl D p b).2.2 = 0 then 0 else _), .int .i64 (dl D p b).2.2]; rw [if_pos pz', pz'], (Only.trans (Only.trans (Only.trans (Only.refl _ _) hn1.ext (fun _ hb_ => by cases hb_)) uy (fun b_ hb_ => .inl (by simp only [List.mem_cons, List.not_mem_nil, or_false] at hb_ ⊢; omega))) hx5 (fun _ hb_ => by cases hb_)), by rw [hx]; exact (uRx.ext hx5), fun q => (hr04).low (nt hn1.ext.size uy.size)⟩
  refine Wg ?_
  refine Mv ?_
  refine Lf 5 ?_
  refine Lb Tryz.underlying2 hk2 ?_
  refine L_call (E_call (by kernel_rfl) rfl) (pab_N (uR.ext hn1.ext) hl hf (by omega) pe) rfl rfl rfl ?_
  rintro _ h5 ⟨rfl, uy, uRx⟩
  refine Mx ?_
  refine Lx ?_
  refine A2 ?_
  refine An ?_
  refine Wu _ (tk7 11 10 9 8 7 6 2) ?_
  refine Wq (Wq (Wg ?_))
  refine Mv ?_
  refine Ly Yne ?_
  refine Nx ?_
  refine W_known true rfl (by exact decide_eq_true (by exact pe)) ?_
  refine Wm ?_
  refine Mv ?_
  refine A2 ?_
  refine Av ?_
  refine Ln (Xt (Wt (Xr ?_)))
  refine Xv3 ?_
  have hx := dcrb_p (xhd_of2 hq s1 s2) pe
  exact ⟨.slice none 0 0, by rw [hx]; exact congrArg (fun x_ => Value.tuple #[.slice none 0 0, .int .i64 x_, .int .i64 (pE D f (p + 512) (dk b))]) (if_neg pe).symm, (Only.trans (Only.trans (Only.refl _ _) hn1.ext (fun _ hb_ => by cases hb_)) uy (fun b_ hb_ => .inl (by simp only [List.mem_cons, List.not_mem_nil, or_false] at hb_ ⊢; omega))), by rw [hx]; exact uRx, fun q => by rw [hx] at q; exact absurd q pe⟩
 refine Wr ?_
 refine Lg Tryz.underlying82 hk2 ?_
 refine Lf 5 ?_
 refine Lb Tryz.underlying2 hk2 ?_
 refine Ly (Yb (.agg #[.int .u8 120, str [112, 97, 120], str [], str [], .int .i64 0, .int .i64 (udS b)]) [0, 1, 5] [.const (.int .u8 120), .const (str [112, 97, 120]), .tmp 16] [.int .u8 120, str [112, 97, 120], .int .i64 (udS b)]) ?_
 refine Ly (Y_decneg (Y_stneq (xs := [.int .u8 (udT b), str (udN b), str (udP b), str (udL b), .int .i64 (udM b), .int .i64 (udS b)]) (ys := [.int .u8 120, str [112, 97, 120], str [], str [], .int .i64 0, .int .i64 (udS b)]) (r := decide ((udT b) = (120 : Int) ∧ (udN b) = [112, 97, 120] ∧ (udP b) = [] ∧ (udL b) = [] ∧ (udM b) = (0 : Int) ∧ (udS b) = (udS b))) (by kernel_rfl) (by kernel_rfl) (by kernel_rfl) rfl rfl (steq (ks := [.i .u8, .s, .s, .s, .i .i64, .i .i64]) (by kernel_rfl) (by simp [eqks, eqk])))) ?_
 refine Mv ?_
 refine L_known (d := 19) true rfl (by exact decide_eq_true (by exact fun q => hq ⟨q.1, q.2.1, q.2.2.1, q.2.2.2.1, q.2.2.2.2.1⟩)) ?_
 refine Sk2 ?_
 refine Skp ?_
 refine Ly Ypt ?_
 refine Mv ?_
 refine Sk2 ?_
 refine Skp ?_
 refine Ly Ypt ?_
 refine Nx ?_
 refine Wu _ (tk7 28 8 7 6 4 0 2) ?_
 refine W_true rfl ?_
 refine Wm ?_
 refine A2 ?_
 refine Av ?_
 refine Ln (Xt (Wt (Xr ?_)))
 refine Xv3 ?_
 have hx := dcrb_x (D := D) (f := f) (p := p) (b := b) (fun q => hq q.1)
 exact ⟨.slice none 0 0, by rw [hx]; rfl, (Only.trans (Only.refl _ _) hn1.ext (fun _ hb_ => by cases hb_)), by rw [hx]; exact (uR.ext hn1.ext), fun q => by rw [hx] at q; cases q⟩
end Go.Xp
