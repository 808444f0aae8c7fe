/- Layer 3 (checksum): the reference's functions. -/
import Derived.Test.YtdmhigknppkniaaGreatDoorOct
import Derived.Test.YtdmhigknppkniaaGreatDoorGlb
import Derived.Test.YtdmhigknppkniaaGreatDoorMergeL
set_option linter.unusedSimpArgs false
set_option linter.unusedVariables false
set_option maxRecDepth 100000
namespace Go.Xp
open Go.Proofs

/-! ### What the layer answers -/
def csumN (b : List UInt8) : Nat → Int
  | 0 => 0
  | i + 1 => csumN b i + (if 148 ≤ i ∧ i < 156 then 32 else byt b i)
theorem csumN_le (b : List UInt8) : ∀ i, 0 ≤ csumN b i ∧ csumN b i ≤ 255 * i
  | 0 => by simp [csumN]
  | i + 1 => by
    have h1 := csumN_le b i
    have h2 := byt_lt b i
    unfold csumN
    split <;> omega
def serr (b : List UInt8) : Int := if b.length = 512 then 0 else 2
def ssum (b : List UInt8) : Int := if b.length = 512 then csumN b 512 else 0
theorem ssum_le (b : List UInt8) : 0 ≤ ssum b ∧ ssum b ≤ 130560 := by
  have := csumN_le b 512
  unfold ssum; split <;> omega
def sseal (b : List UInt8) : List UInt8 := if b.length = 512 then b.take 148 ++ octf (ssum b) 7 ++ [32] ++ b.drop 156 else []
def sver (b : List UInt8) : Int := if b.length = 512 then (if sseal b = b then 0 else 9) else 2
theorem oct7 {n : Int} (h : 0 ≤ n ∧ n ≤ 130560) : oerr n 7 = 0 ∧ octf n 7 = octD n.toNat 6 ++ [0] := by
  have he : oerr n 7 = 0 := by unfold oerr omax; rw [if_neg (by omega), if_neg (by simp; omega)]
  exact ⟨he, by unfold octf; rw [if_pos he]; rfl⟩
theorem oct7_len (b : List UInt8) : (octf (ssum b) 7).length = 7 := by
  rw [(oct7 (ssum_le b)).2]; simp [octD_length]
theorem sseal_len {b : List UInt8} (h : b.length = 512) : (sseal b).length = 512 := by
  unfold sseal
  rw [if_pos h]
  simp only [List.length_append, List.length_take, List.length_drop, oct7_len, List.length_cons, List.length_nil]
  omega

theorem ref03_Sum (h : Heap) (v : Value) (b : List UInt8) (hb : Bytes h v b) : Cal Tryz.prog 130 #[v] h (fun v h' => v = .tuple #[.int .i64 (ssum b), .int .i64 (serr b)] ∧ h' = h) := by
 refine Ce Tryz.func130 fun σ => ?_
 refine Wa ?_
 refine Av ?_
 refine Ln (Xt (Wq (Wq (Wg ?_))))
 refine Mv ?_
 refine Ly (Y_len Tryz.underlying22 rfl hb) ?_
 refine Ly Yne ?_
 refine Nx ?_
 refine Sd (fun g => ?_) fun g => ?_
 ·refine Wa ?_
  refine Av ?_
  refine Ln (Xt (Wt (Xr ?_)))
  refine Xv2 ?_
  exact ⟨by unfold ssum serr; rw [if_neg (by omega), if_neg (by omega)], rfl⟩
 refine Wk (Xt (Wq (Wg ?_)))
 refine Av ?_
 refine Ln (Xt (Wq (Wq (Wg ?_))))
 refine Av ?_
 refine Ln (Xt (Wb ?_))
 refine W_loop (S := Nat) (fun i => [(3, .int .i64 0), (2, .int .i64 0), (0, v), (4, .int .i64 (csumN b i)), (5, .int .i64 ((i : Int)))]) (fun i h' => i ≤ 512 ∧ h' = h) (fun i => 512 - i) 0 (tk5 3 2 0 4 5) ?_ ?_
 ·exact ⟨Nat.zero_le _, rfl⟩
 rintro i h ⟨hi, rfl⟩
 show W _ _ _ _ _ [(3, .int .i64 0), (2, .int .i64 0), (0, v), (4, .int .i64 (csumN b i)), (5, .int .i64 ((i : Int)))] _
 refine Wq (Wq (Wg ?_))
 refine Mv ?_
 refine Ly Yls ?_
 refine Nx ?_
 refine Sd (fun hl => ?_) fun hl => ?_
 ·refine Ws ?_
  have hcn := csumN_le b i
  have hbl := byt_lt b (i : Int).toNat
  have hstep : csumN b (i + 1) = csumN b i + (if 148 ≤ i ∧ i < 156 then 32 else byt b i) := rfl
  refine Wq (Wb ?_)
  refine Wc [(18, .bool (decide ((148 ≤ (i : Int)) ∧ ((i : Int) < 156)))), (3, .int .i64 0), (2, .int .i64 0), (0, v), (4, .int .i64 (csumN b i)), (5, .int .i64 ((i : Int)))] (fun h' => h' = h) ?_ ?_
  ·refine Wg ?_
   refine Mv ?_
   refine Ly (Y_geq rfl rfl) ?_
   refine Mv ?_
   refine L_splitd (d := 15) rfl (fun c1 => ?_) (fun c1 => ?_)
   ·refine Ly (Y_move rfl) ?_
    refine Ly Yls ?_
    refine Ly Ypt ?_
    refine Ln ?_
    exact X_cut () (sk1 18 (lkb rfl (by first | (simp only [eq_true c1, SB]; done) | (simp only [eq_true c1, SB]; rfl))) (sk1 3 rfl (sk1 2 rfl (sk1 0 rfl (sk1 4 rfl (tk1 5)))))) rfl
   refine Sk2 ?_
   refine Ly Ypf ?_
   refine Ln ?_
   exact X_cut () (sk1 18 (lkb rfl (by first | (simp only [eq_false c1, SB]; done) | (simp only [eq_false c1, SB]; rfl))) (sk1 3 rfl (sk1 2 rfl (sk1 0 rfl (sk1 4 rfl (tk1 5)))))) rfl
  rintro h rfl
  refine Sd (fun hs => ?_) fun hs => ?_
  ·refine Wg ?_
   refine Mv ?_
   refine Lad ?_
   refine Av ?_
   refine Ln (Xb (Xt (Wg ?_)))
   refine Mv ?_
   refine Lad ?_
   refine Av ?_
   refine Ln ?_
   refine X_loop (i + 1) (sk3 3 2 0 rfl rfl rfl (sk1 4 (lki rfl (by rw [hstep, if_pos (by omega)])) (tk1 5))) ?_ ?_
   ·exact ⟨by omega, rfl⟩
   (try dsimp only)
   omega
  refine Wg ?_
  refine M2 ?_
  refine Mv ?_
  refine Ly (Y_idx Tryz.underlying22 (show _ = some 1 by kernel_rfl) rfl rfl hb (by omega) (by omega)) ?_
  refine Ly (Y_ldbyte Tryz.underlying5 rfl rfl hb (by omega) (by omega)) ?_
  refine Ly (Y_convs Tryz.underlying5 Tryz.underlying3 rfl (wrap_i64 (by omega) (by omega))) ?_
  refine Lad ?_
  refine Av ?_
  refine Ln (Xb (Xt ?_))
  refine Wu _ (tk5 4 3 2 0 5) ?_
  refine Wg ?_
  refine Mv ?_
  refine Lad ?_
  refine Av ?_
  refine Ln ?_
  refine X_loop (i + 1) (sk3 3 2 0 rfl rfl rfl (sk1 4 (lki rfl (by rw [hstep, if_neg (by omega)]; rfl)) (tk1 5))) ?_ ?_
  ·exact ⟨by omega, rfl⟩
  (try dsimp only)
  omega
 refine W_exit ?_
 refine Xe (Xe ?_)
 refine X_block_hit ?_
 refine Xt (Wq (Wg ?_))
 refine Mv ?_
 refine A2 ?_
 refine Nx ?_
 refine Wu _ (tk2 3 2) ?_
 refine Wt ?_
 refine Xv2 ?_
 have hi5 : i = 512 := by omega
 subst hi5
 exact ⟨by unfold ssum serr; rw [if_pos (by omega), if_pos (by omega)], rfl⟩

theorem ref03_Seal (h : Heap) (v : Value) (b : List UInt8) (hb : Bytes h v b) : Cal Tryz.prog 102 #[v] h (fun v h' => ∃ s0, v = .tuple #[s0, .int .i64 (serr b)] ∧ Bytes h' s0 (sseal b) ∧ Ext h h') := by
 have hs1 := ssum_le b
 have hs2 := oct7_len b
 refine Ce Tryz.func102 fun σ => ?_
 refine Wa ?_
 refine Av ?_
 refine Ln (Xt (Wq (Wg ?_)))
 refine Mv ?_
 refine Lc (ref03_Sum _ v b hb) ?_
 rintro _ h ⟨rfl, rfl⟩
 refine Mx ?_
 refine A2 ?_
 refine Ln (Xt (Wq (Wq (Wg ?_))))
 refine Mv ?_
 refine Ly Yne ?_
 refine Nx ?_
 refine Wu _ (tk6 15 5 4 3 2 0) ?_
 refine Sd (fun g => ?_) fun g => ?_
 ·refine Wm ?_
  refine A2 ?_
  refine Ln (Xt (Wt (Xr ?_)))
  refine Xv2 ?_
  have hl : ¬ b.length = 512 := fun h9 => g (by unfold serr; rw [if_pos h9])
  refine ⟨_, rfl, ?_, (Ext.refl _)⟩
  unfold sseal
  rw [if_neg hl]
  exact Bytes.nil _
 refine Ws ?_
 have hl : b.length = 512 := by apply Decidable.byContradiction; intro h9; apply g; unfold serr; rw [if_neg h9]; decide
 refine Wm ?_
 refine Lc (ref01_Format _ (ssum b) (7 : Int) (by first | omega | rfl | (simp <;> omega))) ?_
 rintro _ h1 ⟨s01, rfl, hr02, hx3⟩
 refine Mx ?_
 refine A2 ?_
 refine Nx ?_
 refine Wu _ (tk4 6 3 2 0) ?_
 refine Wr ?_
 refine L_mks (M_litb (l := ([] : List UInt8)) (cells := []) (pv := []) (E := 5) (evp (is := []) (os := []) (vs := []) rfl rfl) rfl rfl (fun _ => by kernel_rfl)) rfl rfl rfl ?_
 rintro v4 h2 ⟨ho5, hx6⟩
 refine Mv ?_
 have hb7 : Bytes h2 (slcut 1 0 (148 : Int).toNat v) (b.take 148) := Bytes.cuth (hb.ext (hx3.trans hx6)) (by omega) 
 refine Ly (Y_cut_h Tryz.underlying22 (show _ = some 1 by kernel_rfl) rfl (hb.ext (hx3.trans hx6)) rfl (by omega) (by omega)) ?_
 refine L_mks (M_appb Tryz.underlying22 (by unfold elemRow; kernel_rfl) rfl rfl ho5 hb7 hx6.size (by first | omega | (simp; omega))) rfl rfl rfl ?_
 rintro v8 h3 ha9
 refine Av ?_
 refine Ln (Xt (Wq (Wg ?_)))
 refine M2 ?_
 refine L_mks (M_appb Tryz.underlying22 (by unfold elemRow; kernel_rfl) rfl rfl ha9.own (hr02.ext (hx6.then' ha9.only ha9.ge (Nat.le_refl _))) (nt hx6.size ha9.only.size) (by first | omega | (simp; omega))) rfl rfl rfl ?_
 rintro v10 h4 ha11
 refine An ?_
 refine Wu _ (tk4 8 3 2 0) ?_
 refine Wm ?_
 refine L_mks (M_litb (l := [32]) (cells := [.int .u8 32]) (pv := [(0, .int .u8 32)]) (E := 5) (evp (is := [0]) (os := [.const (.int .u8 32)]) (vs := [.int .u8 32]) rfl rfl) rfl rfl (fun _ => by kernel_rfl)) rfl rfl rfl ?_
 rintro v12 h5 ⟨ho13, hx14⟩
 have me1 := nt (nt (nt hx6.size ha9.only.size) ha11.only.size) hx14.size
 refine L_mks (M_appb Tryz.underlying22 (by unfold elemRow; kernel_rfl) rfl rfl (ha11.own.ext hx14) ho13.bytes me1 (by first | omega | (simp; omega))) rfl rfl rfl ?_
 rintro v15 h6 ha16
 refine Av ?_
 refine Ln (Xt (Wq (Wg ?_)))
 refine M2 ?_
 have me2 := ((hx3.trans hx6).then' ha9.only ha9.ge hx3.size).then' ha11.only ha11.ge hx3.size
 have hb17 : Bytes h6 (slcut 1 (156 : Int).toNat b.length v) (b.drop 156) := Bytes.cutl (hb.ext ((me2.trans hx14).then' ha16.only ha16.ge hx3.size)) (by omega) 
 refine Ly (Y_cut_l Tryz.underlying22 (show _ = some 1 by kernel_rfl) rfl (hb.ext ((me2.trans hx14).then' ha16.only ha16.ge hx3.size)) rfl (by omega) (by omega)) ?_
 refine L_mks (M_appb Tryz.underlying22 (by unfold elemRow; kernel_rfl) rfl rfl ha16.own hb17 (nt me1 ha16.only.size) (by first | omega | (simp; omega))) rfl rfl rfl ?_
 rintro v18 h7 ha19
 refine A2 ?_
 refine Nx ?_
 refine Wu _ (tk2 3 2) ?_
 refine Wt ?_
 refine Xv2 ?_
 have he : serr b = 0 := by unfold serr; rw [if_pos hl]
 have me3 := ((me2.trans hx14).then' ha16.only ha16.ge hx3.size).then' ha19.only ha19.ge hx3.size
 refine ⟨_, by rw [he], ?_, me3⟩
 unfold sseal
 rw [if_pos hl]
 exact ha19.own.bytes

theorem ref03_Verify (h : Heap) (v : Value) (b : List UInt8) (hb : Bytes h v b) : Cal Tryz.prog 65 #[v] h (fun v h' => v = .int .i64 (sver b) ∧ Ext h h') := by
 refine Ce Tryz.func65 fun σ => ?_
 refine Wa ?_
 refine Ln (Xt (Wq (Wg ?_)))
 refine Mv ?_
 refine Lc (ref03_Seal _ v b hb) ?_
 rintro _ h1 ⟨s01, rfl, hr02, hx3⟩
 refine Mx ?_
 refine A2 ?_
 refine Ln (Xt (Wq (Wq (Wg ?_))))
 refine Mv ?_
 refine Ly Yne ?_
 refine Nx ?_
 refine Wu _ (tk5 11 4 3 2 0) ?_
 refine Sd (fun g => ?_) fun g => ?_
 ·refine Wm ?_
  refine Av ?_
  refine Ln (Xt (Wt (Xr ?_)))
  refine Xv1 ?_
  have hl : ¬ b.length = 512 := fun h9 => g (by unfold serr; rw [if_pos h9])
  refine ⟨?_, hx3⟩
  unfold sver serr
  rw [if_neg hl, if_neg hl]
 refine Ws ?_
 have hl : b.length = 512 := by apply Decidable.byContradiction; intro h9; apply g; unfold serr; rw [if_neg h9]; decide
 refine Wq (Wq (Wg ?_))
 refine Mv ?_
 refine Ly (Y_bytes_str Tryz.underlying22 Tryz.underlying5 Tryz.underlying9 rfl hr02) ?_
 refine Mv ?_
 refine Ly (Y_bytes_str Tryz.underlying22 Tryz.underlying5 Tryz.underlying9 rfl (hb.ext hx3)) ?_
 refine Ly (Y_sneq rfl rfl) ?_
 refine Nx ?_
 refine Wu _ (tk2 17 2) ?_
 refine Sd (fun hq => ?_) fun hq => ?_
 ·refine Wa ?_
  refine Ln (Xt (Wt (Xr ?_)))
  refine Xv1 ?_
  exact ⟨by unfold sver; rw [if_pos hl, if_neg hq], hx3⟩
 refine Wk (Xt (Wq (Wg ?_)))
 refine Av ?_
 refine Ln (Xt (Wt ?_))
 refine Xv1 ?_
 exact ⟨by unfold sver; rw [if_pos hl, if_pos (Decidable.not_not.1 hq)], hx3⟩

end Go.Xp

/- Layer 7 (ustar): the reference's functions. -/
namespace Go.Xp
open Go.Proofs

theorem ref07_known (h : Heap) (c : Int) : Cal Tryz.prog 66 #[.int .u8 (c)] h (fun v h' => v = .bool (uknown c) ∧ h' = h) := by
 refine Ce Tryz.func66 fun σ => ?_
 refine Wa ?_
 refine Nx ?_
 refine Wc [(2, .bool (decide (((((c = 48) ∨ (c = 49)) ∨ (c = 50)) ∨ (c = 53)) ∨ (c = 120))))] (fun h' => h' = h) ?_ ?_
 ·refine Wg ?_
  refine Mv ?_
  refine Ly Yeq ?_
  refine Mv ?_
  refine L_splitd (d := 5) rfl (fun c1 => ?_) (fun c1 => ?_)
  ·refine Sk2 ?_
   refine Ly Ypt ?_
   refine Mv ?_
   refine Sk2 ?_
   refine Ly Ypt ?_
   refine Mv ?_
   refine Sk2 ?_
   refine Ly Ypt ?_
   refine Mv ?_
   refine Sk2 ?_
   refine Ly Ypt ?_
   refine Av ?_
   refine Ln ?_
   exact X_cut () (sk1 2 (lkb rfl (by first | (simp only [eq_true c1, SB]; done) | (simp only [eq_true c1, SB]; rfl))) sN) rfl
  refine Ly (Y_move rfl) ?_
  refine Ly Yeq ?_
  refine Ly Ypf ?_
  refine Mv ?_
  refine L_splitd (d := 9) rfl (fun c2 => ?_) (fun c2 => ?_)
  ·refine Sk2 ?_
   refine Ly Ypt ?_
   refine Mv ?_
   refine Sk2 ?_
   refine Ly Ypt ?_
   refine Mv ?_
   refine Sk2 ?_
   refine Ly Ypt ?_
   refine Av ?_
   refine Ln ?_
   exact X_cut () (sk1 2 (lkb rfl (by first | (simp only [eq_false c1, eq_true c2, SB]; done) | (simp only [eq_false c1, eq_true c2, SB]; rfl))) sN) rfl
  refine Ly (Y_move rfl) ?_
  refine Ly Yeq ?_
  refine Ly Ypf ?_
  refine Mv ?_
  refine L_splitd (d := 13) rfl (fun c3 => ?_) (fun c3 => ?_)
  ·refine Sk2 ?_
   refine Ly Ypt ?_
   refine Mv ?_
   refine Sk2 ?_
   refine Ly Ypt ?_
   refine Av ?_
   refine Ln ?_
   exact X_cut () (sk1 2 (lkb rfl (by first | (simp only [eq_false c1, eq_false c2, eq_true c3, SB]; done) | (simp only [eq_false c1, eq_false c2, eq_true c3, SB]; rfl))) sN) rfl
  refine Ly (Y_move rfl) ?_
  refine Ly Yeq ?_
  refine Ly Ypf ?_
  refine Mv ?_
  refine L_splitd (d := 17) rfl (fun c4 => ?_) (fun c4 => ?_)
  ·refine Sk2 ?_
   refine Ly Ypt ?_
   refine Av ?_
   refine Ln ?_
   exact X_cut () (sk1 2 (lkb rfl (by first | (simp only [eq_false c1, eq_false c2, eq_false c3, eq_true c4, SB]; done) | (exfalso; contradiction) | (exfalso; omega))) sN) rfl
  refine Ly (Y_move rfl) ?_
  refine Ly Yeq ?_
  refine Ly Ypf ?_
  refine Av ?_
  refine Ln ?_
  exact X_cut () (sk1 2 (lkb rfl (by first | (simp only [eq_false c1, eq_false c2, eq_false c3, eq_false c4, SB]; done) | (exfalso; contradiction) | (exfalso; omega))) sN) rfl
 rintro h rfl
 refine Wt ?_
 refine Xv1 ?_
 exact ⟨by unfold uknown; congr 1; simp only [or_assoc], rfl⟩

theorem ref07_Check (h : Heap) (t : Int) (name : List UInt8) (pre : List UInt8) (link : List UInt8) (mode : Int) (size : Int) (h1 : name.length ≤ 1048576) (h2 : pre.length ≤ 1048576) (h3 : link.length ≤ 1048576) : Cal Tryz.prog 103 #[.agg #[.int .u8 (t), str name, str pre, str link, .int .i64 (mode), .int .i64 (size)]] h (fun v h' => v = .int .i64 (ucheck t name pre link mode size) ∧ Ext h h') := by
 refine Ce Tryz.func103 fun σ => ?_
 refine Wr ?_
 refine L_mks (M_box rfl) rfl rfl rfl ?_
 rintro _ h1 ⟨rfl, hn1⟩
 have hk2 : Blk h1 h.size [.int .u8 (t), str name, str pre, str link, .int .i64 (mode), .int .i64 (size)] := hn1.blk
 refine Av ?_
 refine Ln (Xt (Wq (Wq (Wg ?_))))
 refine Lf 0 ?_
 refine Lb Tryz.underlying5 hk2 ?_
 refine Lc (ref07_known _ t) ?_
 rintro _ h1 ⟨rfl, rfl⟩
 refine Ly (Y_not rfl) ?_
 refine Nx ?_
 refine W_split rfl (fun k => ?_) (fun k => ?_)
 ·refine Wa ?_
  refine Ln (Xt (Wt (Xr ?_)))
  refine Xv1 ?_
  have k' : uknown t = false := by simpa using k
  exact ⟨by unfold ucheck; rw [if_pos k'], hn1.ext⟩
 refine Wk (Xt (Wq (Wg ?_)))
 refine Lf 1 ?_
 refine Lb Tryz.underlying9 hk2 ?_
 refine Lc (ref02_Format _ name (100 : Int) (by first | omega | rfl | (simp <;> omega))) ?_
 rintro _ h2 ⟨s03, rfl, hr04, hx5⟩
 refine Mx ?_
 refine A2 ?_
 refine Nx ?_
 refine Wu _ (tk3 4 2 1) ?_
 refine Wq (Wq (Wg ?_))
 refine Mv ?_
 refine Ly Yne ?_
 refine Nx ?_
 refine Sd (fun e1 => ?_) fun e1 => ?_
 ·refine Wm ?_
  refine Av ?_
  refine Ln (Xt (Wt (Xr ?_)))
  refine Xv1 ?_
  have k' : ¬ uknown t = false := by simpa using k
  exact ⟨by unfold ucheck; rw [if_neg k', if_pos e1], (hn1.ext.trans hx5)⟩
 refine Wk (Xt (Wq (Wg ?_)))
 refine Lf 3 ?_
 refine Lb Tryz.underlying9 (hk2.ext hx5) ?_
 refine Lc (ref02_Format _ link (100 : Int) (by first | omega | rfl | (simp <;> omega))) ?_
 rintro _ h3 ⟨s06, rfl, hr07, hx8⟩
 refine Mx ?_
 refine An ?_
 refine Wu _ (tk3 4 2 1) ?_
 refine Wq (Wq (Wg ?_))
 refine Mv ?_
 refine Ly Yne ?_
 refine Nx ?_
 refine Sd (fun e2 => ?_) fun e2 => ?_
 ·refine Wm ?_
  refine Av ?_
  refine Ln (Xt (Wt (Xr ?_)))
  refine Xv1 ?_
  have k' : ¬ uknown t = false := by simpa using k
  exact ⟨by unfold ucheck; rw [if_neg k', if_neg e1, if_pos e2], ((hn1.ext.trans hx5).trans hx8)⟩
 refine Wk (Xt (Wq (Wg ?_)))
 refine Lf 2 ?_
 refine Lb Tryz.underlying9 (hk2.ext (hx5.trans hx8)) ?_
 refine Lc (ref02_Format _ pre (155 : Int) (by first | omega | rfl | (simp <;> omega))) ?_
 rintro _ h4 ⟨s09, rfl, hr010, hx11⟩
 refine Mx ?_
 refine An ?_
 refine Wu _ (tk3 4 2 1) ?_
 refine Wq (Wq (Wg ?_))
 refine Mv ?_
 refine Ly Yne ?_
 refine Nx ?_
 refine Sd (fun e3 => ?_) fun e3 => ?_
 ·refine Wm ?_
  refine Av ?_
  refine Ln (Xt (Wt (Xr ?_)))
  refine Xv1 ?_
  have k' : ¬ uknown t = false := by simpa using k
  exact ⟨by unfold ucheck; rw [if_neg k', if_neg e1, if_neg e2, if_pos e3], (((hn1.ext.trans hx5).trans hx8).trans hx11)⟩
 refine Wk (Xt (Wq ?_))
 refine Wc [(43, .bool (decide ((mode < 0) ∨ (4095 < mode)))), (2, .int .i64 0), (1, .pointer (some ⟨h.size, 0, none⟩))] (fun h' => h' = h4) ?_ ?_
 ·refine Wg ?_
  refine Lf 4 ?_
  refine Lb Tryz.underlying3 (hk2.ext ((hx5.trans hx8).trans hx11)) ?_
  refine Ly Yls ?_
  refine Mv ?_
  refine L_splitd (d := 39) rfl (fun c12 => ?_) (fun c12 => ?_)
  ·refine Sk2 ?_
   refine Skp ?_
   refine Ly Ypt ?_
   refine Ln ?_
   exact X_cut () (sk1 43 (lkb rfl (by first | (simp only [eq_true c12, SB]; done) | (simp only [eq_true c12, SB]; rfl))) (sk1 2 rfl (tk1 1))) rfl
  refine Lf 4 ?_
  refine Lb Tryz.underlying3 (hk2.ext ((hx5.trans hx8).trans hx11)) ?_
  refine Ly (Y_gtr rfl rfl) ?_
  refine Ly Ypf ?_
  refine Ln ?_
  exact X_cut () (sk1 43 (lkb rfl (by first | (simp only [eq_false c12, SB]; done) | (simp only [eq_false c12, SB]; rfl))) (sk1 2 rfl (tk1 1))) rfl
 rintro h4 rfl
 refine Sd (fun m => ?_) fun m => ?_
 ·refine Wa ?_
  refine Ln (Xt (Wt (Xr ?_)))
  refine Xv1 ?_
  have k' : ¬ uknown t = false := by simpa using k
  exact ⟨by unfold ucheck; rw [if_neg k', if_neg e1, if_neg e2, if_neg e3, if_pos m], (((hn1.ext.trans hx5).trans hx8).trans hx11)⟩
 refine Wk (Xt (Wq ?_))
 refine Wc [(51, .bool (decide ((size < 0) ∨ (8589934591 < size)))), (2, .int .i64 0)] (fun h' => h' = h4) ?_ ?_
 ·refine Wg ?_
  refine Lf 5 ?_
  refine Lb Tryz.underlying2 (hk2.ext ((hx5.trans hx8).trans hx11)) ?_
  refine Ly Yls ?_
  refine Mv ?_
  refine L_splitd (d := 47) rfl (fun c13 => ?_) (fun c13 => ?_)
  ·refine Sk2 ?_
   refine Skp ?_
   refine Ly Ypt ?_
   refine Ln ?_
   exact X_cut () (sk1 51 (lkb rfl (by first | (simp only [eq_true c13, SB]; done) | (simp only [eq_true c13, SB]; rfl))) (tk1 2)) rfl
  refine Lf 5 ?_
  refine Lb Tryz.underlying2 (hk2.ext ((hx5.trans hx8).trans hx11)) ?_
  refine Ly (Y_gtr rfl rfl) ?_
  refine Ly Ypf ?_
  refine Ln ?_
  exact X_cut () (sk1 51 (lkb rfl (by first | (simp only [eq_false c13, SB]; done) | (simp only [eq_false c13, SB]; rfl))) (tk1 2)) rfl
 rintro h4 rfl
 refine Sd (fun z => ?_) fun z => ?_
 ·refine Wa ?_
  refine Ln (Xt (Wt (Xr ?_)))
  refine Xv1 ?_
  have k' : ¬ uknown t = false := by simpa using k
  exact ⟨by unfold ucheck; rw [if_neg k', if_neg e1, if_neg e2, if_neg e3, if_neg m, if_pos z], (((hn1.ext.trans hx5).trans hx8).trans hx11)⟩
 refine Wk (Xt (Wq (Wg ?_)))
 refine Av ?_
 refine Ln (Xt (Wt ?_))
 refine Xv1 ?_
 have k' : ¬ uknown t = false := by simpa using k
 exact ⟨by unfold ucheck; rw [if_neg k', if_neg e1, if_neg e2, if_neg e3, if_neg m, if_neg z], (((hn1.ext.trans hx5).trans hx8).trans hx11)⟩

theorem ref07_text (h : Heap) (s : List UInt8) (w : Int) (hs : s.length ≤ 1048576) : Cal Tryz.prog 104 #[str s, .int .i64 (w)] h (fun v h' => v = str (cfmt s w) ∧ Ext h h') := by
 refine Ce Tryz.func104 fun σ => ?_
 refine Wa ?_
 refine Ln (Xt (Wq (Wg ?_)))
 refine M2 ?_
 refine Lc (ref02_Format _ s w (by first | omega | rfl | (simp <;> omega))) ?_
 rintro _ h1 ⟨s01, rfl, hr02, hx3⟩
 refine Mx ?_
 refine A2 ?_
 refine Nx ?_
 refine Wu _ (tk2 5 4) ?_
 refine Wm ?_
 refine Ly (Y_bytes_str Tryz.underlying22 Tryz.underlying5 Tryz.underlying9 rfl hr02) ?_
 refine Av ?_
 refine Ln (Xt (Wt ?_))
 refine Xv1 ?_
 exact ⟨rfl, hx3⟩

theorem ref07_octal (h : Heap) (n : Int) (w : Int) (hn : n ≤ 9223372036854775807) : Cal Tryz.prog 105 #[.int .i64 (n), .int .i64 (w)] h (fun v h' => v = str (octf n w) ∧ Ext h h') := by
 refine Ce Tryz.func105 fun σ => ?_
 refine Wa ?_
 refine Ln (Xt (Wq (Wg ?_)))
 refine M2 ?_
 refine Lc (ref01_Format _ n w (by first | omega | rfl | (simp <;> omega))) ?_
 rintro _ h1 ⟨s01, rfl, hr02, hx3⟩
 refine Mx ?_
 refine A2 ?_
 refine Nx ?_
 refine Wu _ (tk2 5 4) ?_
 refine Wm ?_
 refine Ly (Y_bytes_str Tryz.underlying22 Tryz.underlying5 Tryz.underlying9 rfl hr02) ?_
 refine Av ?_
 refine Ln (Xt (Wt ?_))
 refine Xv1 ?_
 exact ⟨rfl, hx3⟩

theorem cfmt_len (s : List UInt8) (w : Int) : (cfmt s w).length ≤ 256 := by
  unfold cfmt
  split
  · rename_i h
    unfold cerr at h
    split at h
    · cases h
    · split at h
      · cases h
      · split at h
        · cases h
        · simp; omega
  · simp
theorem octf_len (n w : Int) : (octf n w).length ≤ 22 := by
  unfold octf
  split
  · rename_i h
    unfold oerr at h
    split at h
    · cases h
    · simp [octD_length]; omega
  · simp
def ubody (t : Int) (name pre link : List UInt8) (mode size : Int) : List UInt8 :=
  cfmt name 100 ++ octf mode 8 ++ octf 0 8 ++ octf 0 8 ++ octf size 12 ++ octf 0 12 ++ [32, 32, 32, 32, 32, 32, 32, 32] ++ [t.toNat.toUInt8] ++ cfmt link 100 ++ [117, 115, 116, 97, 114, 0, 48, 48] ++ cfmt [] 32 ++ cfmt [] 32 ++ octf 0 8 ++ octf 0 8 ++ cfmt pre 155 ++ cfmt [] 12
def uenc (t : Int) (name pre link : List UInt8) (mode size : Int) : List UInt8 := if ucheck t name pre link mode size = 0 then sseal (ubody t name pre link mode size) else []

end Go.Xp
