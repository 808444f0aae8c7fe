/- The reference of layers 4 and 6: a source. -/
import Derived.Test.YtdmhigknppkniaaGreatDoorSrc
set_option linter.unusedSimpArgs false
set_option linter.unusedVariables false
set_option linter.unusedSectionVars false
set_option maxRecDepth 100000
namespace Go.Xp
open Go.Proofs

/-- What stands of the reference's source in memory. -/
structure SrcB (lo hi : Nat) (h : Heap) (s r : Nat) (D : List UInt8) (f : Int) (p : Nat) : Prop where
  st : ∃ vb vc C rd, Blk h s [vb, vc, .int .i64 f, .int .i64 p, .int .i64 rd] ∧ Bytes h vb D ∧ Rows intS h vc C ∧ (0 ≤ rd ∧ rd ≤ p) ∧ C.length ≤ 1000000000 ∧
    (∀ d, blockOf vb = some d → (lo ≤ d ∧ d < hi) ∧ d ≠ s ∧ d ≠ r) ∧ (∀ d, blockOf vc = some d → (lo ≤ d ∧ d < hi) ∧ d ≠ s ∧ d ≠ r)
  le : p ≤ D.length
  rg : (lo ≤ s ∧ s < hi) ∧ s ≠ r ∧ hi ≤ h.size
  ff : 0 ≤ f → (p : Int) ≤ f
section
variable {lo hi : Nat} {h h' : Heap} {s r : Nat} {D : List UInt8} {f : Int} {p : Nat} {bs : List Nat}
theorem SrcB.out (S : SrcB lo hi h s r D f p) (y : Only bs h h') (hb : ∀ b ∈ bs, (b < lo ∨ hi ≤ b) ∨ b = r) : SrcB lo hi h' s r D f p := by
  obtain ⟨⟨vr, vc, C, rd, a1, a2, a3, a4, a5, a6, a7⟩, le, rg, ff⟩ := S
  refine ⟨⟨vr, vc, C, rd, a1.only y (fun q => ?_), Bytes.only a2 y (fun d hd q => ?_), a3.onlyI y (fun d hd q => ?_), a4, a5, a6, a7⟩, le, ⟨rg.1, rg.2.1, nt rg.2.2 y.size⟩, ff⟩
  · rcases hb _ q with c | c
    · omega
    · exact rg.2.1 c
  · have := a6 d hd
    rcases hb _ q with c | c
    · omega
    · exact this.2.2 c
  · have := a7 d hd
    rcases hb _ q with c | c
    · omega
    · exact this.2.2 c
theorem SrcB.ext (S : SrcB lo hi h s r D f p) (y : Ext h h') : SrcB lo hi h' s r D f p := S.out y (fun b q => absurd q List.not_mem_nil)
theorem SrcB.lt (S : SrcB lo hi h s r D f p) : s < h.size := ntl S.rg.1.2 S.rg.2.2
end
theorem ref04_Chunk (h : Heap) (vc : Value) (C : List Int) (hc : Rows intS h vc C) (f : Int) (rd : Int) (hC : C.length ≤ 1000000000) (hrd : 0 ≤ rd) : Cal Tryz.prog 101 #[.agg #[vc, .int .i64 (f)], .int .i64 (rd)] h (fun v h' => v = .int .i64 (chk C rd) ∧ Ext h h') := by
 refine Ce Tryz.func101 fun σ => ?_
 refine Wr ?_
 refine L_mks (M_box rfl) rfl rfl rfl ?_
 rintro _ h1 ⟨rfl, hn1⟩
 have hk2 : Blk h1 h.size [vc, .int .i64 (f)] := hn1.blk
 refine Av ?_
 refine Ln (Xt (Wq (Wq (Wg ?_))))
 refine Lf 0 ?_
 refine Lb Tryz.underlying23 hk2 ?_
 refine Ly (Y_lenr Tryz.underlying23 rfl (hc.ext hn1.ext)) ?_
 refine Ly Yeq ?_
 refine Nx ?_
 refine Sd (fun c => ?_) fun c => ?_
 ·refine Wa ?_
  refine Ln (Xt (Wt (Xr ?_)))
  refine Xv1 ?_
  exact ⟨by unfold chk; rw [if_pos c], hn1.ext⟩
 refine Wk (Xt (Wq ?_))
 refine W_quiet (fun h' => h' = h1) (by kernel_rfl) (by kernel_rfl) rfl ?_
 refine Qy (Y_fieldAddr (off := 0) (by kernel_rfl) rfl rfl) ?_
 refine Qy (Y_ldblk Tryz.underlying23 rfl rfl hk2 rfl) ?_
 refine Qm ?_
 refine Qy (Y_fieldAddr (off := 0) (by kernel_rfl) rfl rfl) ?_
 refine Qy (Y_ldblk Tryz.underlying23 rfl rfl hk2 rfl) ?_
 refine Qy (Y_lenr Tryz.underlying23 rfl (hc.ext hn1.ext)) ?_
 refine Qy (Y_rem rfl rfl (by omega) (by omega)) ?_
 refine Qy (Y_idxr Tryz.underlying23 (show _ = some 1 by kernel_rfl) rfl rfl rfl (hc.ext hn1.ext) (by first | (have h1 := Int.emod_nonneg rd (show (C.length : Int) ≠ 0 by omega); have h2 := Int.emod_lt_of_pos rd (show 0 < (C.length : Int) by omega); omega)) (by first | (have h1 := Int.emod_nonneg rd (show (C.length : Int) ≠ 0 by omega); have h2 := Int.emod_lt_of_pos rd (show 0 < (C.length : Int) by omega); omega))) ?_
 refine Qy (Y_ldr0 (k := (rd % (C.length : Int)).toNat) Tryz.underlying3 rfl rfl rfl (hc.ext hn1.ext) (by first | (have h1 := Int.emod_nonneg rd (show (C.length : Int) ≠ 0 by omega); have h2 := Int.emod_lt_of_pos rd (show 0 < (C.length : Int) by omega); omega)) rfl) ?_
 refine Qa ?_
 refine LQ_nil ?_
 rintro h1 rfl
 refine Xt ?_
 refine Wu _ (tk2 5 4) ?_
 refine Wq (Wq (Wg ?_))
 refine Mv ?_
 refine Ly Yls ?_
 refine Nx ?_
 refine Sd (fun c1 => ?_) fun c1 => ?_
 ·refine Wa ?_
  refine Ln (Xt (Wt (Xr ?_)))
  refine Xv1 ?_
  exact ⟨by unfold chk; rw [if_neg c]; exact congrArg (Value.int .i64) (Int.max_eq_left (Int.le_of_lt c1)).symm, hn1.ext⟩
 refine Wk (Xt (Wq (Wg ?_)))
 refine Mv ?_
 refine Av ?_
 refine Ln (Xt (Wt ?_))
 refine Xv1 ?_
 exact ⟨by unfold chk; rw [if_neg c]; exact congrArg (Value.int .i64) (Int.max_eq_right (Int.not_lt.1 c1)).symm, hn1.ext⟩
theorem ramt {D : List UInt8} {f n c : Int} {p : Nat} (hl : D.length ≤ 100000000000) (hp : p ≤ D.length) (hn : 1 ≤ n ∧ n ≤ 512) (hc : 1 ≤ c) (h1 : ¬ ((p : Int)) = f) (h2 : ¬ (D.length : Int) ≤ p) (hf : 0 ≤ f → (p : Int) ≤ f) (e w : Int) (he : e = if 0 ≤ f ∧ f < (D.length : Int) then f else (D.length : Int)) (hw : w = if c < n then c else n) :
    ∃ m : Nat, (if w < e - (p : Int) then (p : Int) + w else e) = ((p + m : Nat) : Int) ∧ 1 ≤ m ∧ (m : Int) ≤ n ∧ p + m ≤ stp D f p := by
  have h3 : p < e := by rw [he]; split <;> omega
  have h4 : 1 ≤ w ∧ w ≤ n := by rw [hw]; split <;> omega
  have h5 : e ≤ (stp D f p : Nat) := by
    rw [he]; unfold stp
    split <;> split <;> omega
  have h6 := stp_le (D := D) (f := f) (p := p)
  by_cases c9 : w < e - (p : Int)
  · rw [if_pos c9]; exact ⟨w.toNat, by omega, by omega, by omega, by omega⟩
  · rw [if_neg c9]; exact ⟨(e - p).toNat, by omega, by omega, by omega, by omega⟩
theorem ref04_Read (h : Heap) (s : Nat) (vb : Value) (D : List UInt8) (hb0 : Bytes h vb D) (vc : Value) (C : List Int) (hc : Rows intS h vc C) (f : Int) (p : Nat) (rd : Int) (hb : Blk h s [vb, vc, .int .i64 f, .int .i64 (p : Int), .int .i64 rd]) (n : Int) (hC : C.length ≤ 1000000000) (hrd : 0 ≤ rd ∧ rd ≤ p) (hl : D.length ≤ 100000000000) (hp : p ≤ D.length) (hn : 1 ≤ n ∧ n ≤ 512) (hf : -9223372036854775808 ≤ f ∧ f ≤ 9223372036854775807) (hpf : 0 ≤ f → (p : Int) ≤ f) : Cal Tryz.prog 64 #[.pointer (some ⟨s, 0, none⟩), .int .i64 (n)] h (fun v h' => (v = .tuple #[.slice none 0 0, .int .i64 (if (p : Int) = f then 11 else 4)] ∧ ((p : Int) = f ∨ D.length ≤ p) ∧ Ext h h') ∨ ∃ (m : Nat) (bv : Value) (rd' : Int), v = .tuple #[bv, .int .i64 0] ∧ (1 ≤ m ∧ (m : Int) ≤ n ∧ p + m ≤ stp D f p) ∧ ¬ ((p : Int) = f ∨ D.length ≤ p) ∧ OwnB h' h.size bv ((D.drop p).take m) ∧ Only [s] h h' ∧ Blk h' s [vb, vc, .int .i64 f, .int .i64 ((p + m : Nat) : Int), .int .i64 rd'] ∧ (0 ≤ rd' ∧ rd' ≤ ((p + m : Nat) : Int))) := by
 have hck := chk_pos C rd
 refine Ce Tryz.func64 fun σ => ?_
 refine Wa ?_
 refine Av ?_
 refine Ln (Xt (Wq (Wq (Wg ?_))))
 refine Mv ?_
 refine Ly Yls ?_
 refine Nx ?_
 refine W_known false rfl (by exact decide_eq_false (by omega)) ?_
 refine Ws ?_
 refine W_cut (S := Unit) (fun _u => [(0, .pointer (some ⟨s, 0, none⟩)), (1, .int .i64 (n))]) (fun _u h' => Ext h h' ∧ ¬ (p : Int) = f) ?_ ?_
 ·refine Wq ?_
  by_cases f0 : 0 ≤ f
  ·refine W_quiet (fun h' => h' = h) (by kernel_rfl) (by kernel_rfl) rfl ?_
   refine Qm ?_
   refine Qy (Y_nilCheck rfl) ?_
   refine Qy (Y_fieldAddr (off := 1) (by kernel_rfl) rfl rfl) ?_
   refine Qy (Y_fieldAddr (off := 1) (by kernel_rfl) rfl rfl) ?_
   refine Qy (Y_ldblk Tryz.underlying2 rfl rfl hb rfl) ?_
   refine Qy (Y_geq rfl rfl) ?_
   refine Qm ?_
   refine LQ_known (d := 18) true rfl (by exact decide_eq_true (by exact f0)) ?_
   refine Qm ?_
   refine Qy (Y_nilCheck rfl) ?_
   refine Qy (Y_fieldAddr (off := 3) (by kernel_rfl) rfl rfl) ?_
   refine Qy (Y_ldblk Tryz.underlying2 rfl rfl hb rfl) ?_
   refine Qm ?_
   refine Qy (Y_nilCheck rfl) ?_
   refine Qy (Y_fieldAddr (off := 1) (by kernel_rfl) rfl rfl) ?_
   refine Qy (Y_fieldAddr (off := 1) (by kernel_rfl) rfl rfl) ?_
   refine Qy (Y_ldblk Tryz.underlying2 rfl rfl hb rfl) ?_
   refine Qy (Y_eql rfl rfl) ?_
   refine Qy (Y_pick_t rfl rfl) ?_
   refine LQ_nil ?_
   rintro h rfl
   refine Xt ?_
   refine Wu _ (tk5 29 5 4 0 1) ?_
   refine Sd (fun c1 => ?_) fun c1 => ?_
   ·refine Wa ?_
    refine Av ?_
    refine Ln (Xt (Wt (Xr ?_)))
    refine Xv2 ?_
    exact .inl ⟨by rw [if_pos c1], .inl c1, (Ext.refl _)⟩
   refine Wk ?_
   refine X_cut (()) (tk2 0 1) ?_
   exact ⟨(Ext.refl _), c1⟩
  refine W_quiet (fun h' => h' = h) (by kernel_rfl) (by kernel_rfl) rfl ?_
  refine Qm ?_
  refine Qy (Y_nilCheck rfl) ?_
  refine Qy (Y_fieldAddr (off := 1) (by kernel_rfl) rfl rfl) ?_
  refine Qy (Y_fieldAddr (off := 1) (by kernel_rfl) rfl rfl) ?_
  refine Qy (Y_ldblk Tryz.underlying2 rfl rfl hb rfl) ?_
  refine Qy (Y_geq rfl rfl) ?_
  refine Qm ?_
  refine LQ_known (d := 18) false rfl (by exact decide_eq_false (by exact f0)) ?_
  refine LQ_skip rfl rfl rfl ?_
  refine LQ_skip rfl rfl rfl ?_
  refine LQ_skip rfl rfl rfl ?_
  refine LQ_skip rfl rfl rfl ?_
  refine LQ_skip rfl rfl rfl ?_
  refine LQ_skip rfl rfl rfl ?_
  refine LQ_skip rfl rfl rfl ?_
  refine LQ_skip rfl rfl rfl ?_
  refine LQ_skip rfl rfl rfl ?_
  refine LQ_skip rfl rfl rfl ?_
  refine Qy (Y_pick_f rfl rfl) ?_
  refine LQ_nil ?_
  rintro h rfl
  refine Xt ?_
  refine Wu _ (tk5 29 5 4 0 1) ?_
  refine W_false rfl ?_
  refine Wk ?_
  refine X_cut (()) (tk2 0 1) ?_
  exact ⟨(Ext.refl _), by omega⟩
 rintro _u h1 ⟨hxc1, c1⟩
 show W _ _ _ _ _ [(0, .pointer (some ⟨s, 0, none⟩)), (1, .int .i64 (n))] _
 refine Wq (Wq ?_)
 refine W_quiet (fun h' => h' = h1) (by kernel_rfl) (by kernel_rfl) rfl ?_
 refine Qm ?_
 refine Qy (Y_nilCheck rfl) ?_
 refine Qy (Y_fieldAddr (off := 3) (by kernel_rfl) rfl rfl) ?_
 refine Qy (Y_ldblk Tryz.underlying2 rfl rfl (hb.ext hxc1) rfl) ?_
 refine Qm ?_
 refine Qy (Y_nilCheck rfl) ?_
 refine Qy (Y_fieldAddr (off := 0) (by kernel_rfl) rfl rfl) ?_
 refine Qy (Y_ldblk Tryz.underlying22 rfl rfl (hb.ext hxc1) rfl) ?_
 refine Qy (Y_len Tryz.underlying22 rfl (hb0.ext hxc1)) ?_
 refine Qy (Y_geq rfl rfl) ?_
 refine LQ_nil ?_
 rintro h1 rfl
 refine Xt ?_
 refine Wu _ (tk3 39 0 1) ?_
 refine Sd (fun c2 => ?_) fun c2 => ?_
 ·refine Wa ?_
  refine Av ?_
  refine Ln (Xt (Wt (Xr ?_)))
  refine Xv2 ?_
  exact .inl ⟨by rw [if_neg c1], .inr (by omega), hxc1⟩
 refine Wk (Xt (Wq (Wg ?_)))
 refine Mv ?_
 refine Ly (Y_nilCheck rfl) ?_
 refine Lf 0 ?_
 refine Lb Tryz.underlying22 (hb.ext hxc1) ?_
 refine Ly (Y_len Tryz.underlying22 rfl (hb0.ext hxc1)) ?_
 refine An ?_
 refine Wu _ (tk3 6 0 1) ?_
 refine W_cut (S := Int) (fun e9 => [(0, .pointer (some ⟨s, 0, none⟩)), (1, .int .i64 (n)), (6, .int .i64 (e9))]) (fun e9 h' => Ext h h' ∧ e9 = (if 0 ≤ f ∧ f < (D.length : Int) then f else (D.length : Int))) ?_ ?_
 ·refine Wm ?_
  refine Ly (Y_nilCheck rfl) ?_
  refine Lf 1 ?_
  refine Lf 1 ?_
  refine Lb Tryz.underlying2 (hb.ext hxc1) ?_
  refine Ly (Y_geq rfl rfl) ?_
  refine Mv ?_
  refine L_splitd (d := 51) rfl (fun f0 => ?_) (fun f0 => ?_)
  ·refine Ly (Y_move rfl) ?_
   refine Ly (Y_nilCheck rfl) ?_
   refine Lf 1 ?_
   refine Lf 1 ?_
   refine Lb Tryz.underlying2 (hb.ext hxc1) ?_
   refine Mv ?_
   refine Ly Yls ?_
   refine Ly Ypt ?_
   refine Nx ?_
   refine Wu _ (tk4 59 6 0 1) ?_
   refine Sd (fun f1 => ?_) fun f1 => ?_
   ·refine Wg ?_
    refine Mv ?_
    refine Ly (Y_nilCheck rfl) ?_
    refine Lf 1 ?_
    refine Lf 1 ?_
    refine Lb Tryz.underlying2 (hb.ext hxc1) ?_
    refine Av ?_
    refine Ln ?_
    refine X_cut (f) (tk3 0 1 6) ?_
    exact ⟨hxc1, (if_pos ⟨f0, f1⟩).symm⟩
   refine Wk ?_
   refine X_cut ((D.length : Int)) (tk3 0 1 6) ?_
   exact ⟨hxc1, (if_neg (fun q => f1 q.2)).symm⟩
  refine Sk2 ?_
  refine Sk2 ?_
  refine Sk2 ?_
  refine Skp ?_
  refine Ly Ypf ?_
  refine Nx ?_
  refine Wu _ (tk4 59 6 0 1) ?_
  refine W_false rfl ?_
  refine Wk ?_
  refine X_cut ((D.length : Int)) (tk3 0 1 6) ?_
  exact ⟨hxc1, (if_neg (fun q => f0 q.1)).symm⟩
 rintro e9 h2 ⟨hxc2, he9⟩
 show W _ _ _ _ _ [(0, .pointer (some ⟨s, 0, none⟩)), (1, .int .i64 (n)), (6, .int .i64 (e9))] _
 refine Wm ?_
 refine An ?_
 refine W_cut (S := Int) (fun w9 => [(0, .pointer (some ⟨s, 0, none⟩)), (6, .int .i64 (e9)), (7, .int .i64 (w9))]) (fun w9 h' => Ext h h' ∧ w9 = (if chk C rd < n then chk C rd else n)) ?_ ?_
 ·refine Wq ?_
  refine W_pers [(7, .int .i64 (n)), (0, .pointer (some ⟨s, 0, none⟩)), (6, .int .i64 (e9))] (tk3 7 0 6) (by kernel_rfl) ?_
  refine LPc 0 (.pointer (some ⟨s, 0, none⟩)) [] ?_ ?_
  ·intro h3 hx1
   exact Sm
  refine LPc 1 (.pointer (some ⟨s, 0, none⟩)) [(0, 66)] ?_ ?_
  ·intro h4 hx2
   rintro _ rfl
   exact Sy (Y_nilCheck rfl)
  refine LPc 2 (.pointer (some ⟨s, 0 + 1, none⟩)) [(1, 67)] ?_ ?_
  ·intro h5 hx3
   rintro _ rfl
   exact Sf 1
  refine LPc 3 (.agg #[vc, .int .i64 (f)]) [(2, 68)] ?_ ?_
  ·intro h6 hx4
   rintro _ rfl
   exact Sy (Y_ldbox (us := [vc, .int .i64 (f)]) Tryz.underlying25 rfl (show _ = some 2 by kernel_rfl) rfl (hb.ext (hxc2.trans hx4)) rfl)
  refine LPc 4 (.pointer (some ⟨s, 0, none⟩)) [] ?_ ?_
  ·intro h7 hx5
   exact Sm
  refine LPc 5 (.pointer (some ⟨s, 0, none⟩)) [(4, 70)] ?_ ?_
  ·intro h8 hx6
   rintro _ rfl
   exact Sy (Y_nilCheck rfl)
  refine LPc 6 (.pointer (some ⟨s, 0 + 4, none⟩)) [(5, 71)] ?_ ?_
  ·intro h9 hx7
   rintro _ rfl
   exact Sf 4
  refine LPc 7 (.int .i64 (rd)) [(6, 72)] ?_ ?_
  ·intro h10 hx8
   rintro _ rfl
   exact Sb Tryz.underlying3 (hb.ext (hxc2.trans hx8))
  refine LPc 8 (.int .i64 (chk C rd)) [(7, 73), (3, 69)] ?_ ?_
  ·intro h11 hx9
   rintro _ rfl
   rintro _ rfl
   refine Nn ?_
   refine Stp_call (E_call (by kernel_rfl) rfl) (ref04_Chunk _ vc C (hc.ext (hxc2.trans hx9)) f rd (by first | first | omega | (simp; omega) | rfl | (simp <;> omega)) (by first | first | omega | (simp; omega) | rfl | (simp <;> omega))) rfl ?_
   rintro _ h12 ⟨rfl, hx10⟩
   exact ⟨hx10, rfl⟩
  refine LPc 9 (.int .i64 (chk C rd)) [(8, 74)] ?_ ?_
  ·intro h13 hx11
   rintro _ rfl
   exact Sy (Y_assign rfl)
  refine LP_end [(9, 8)] rfl (by kernel_rfl) rfl ?_
  intro h14 hx12
  rintro _ rfl
  refine Nn ?_
  refine Xt (Wq (Wg ?_))
  refine M2 ?_
  refine Ly Yls ?_
  refine Nx ?_
  refine Sd (fun c3 => ?_) fun c3 => ?_
  ·refine Wg ?_
   refine Mv ?_
   refine Av ?_
   refine Ln ?_
   refine X_cut ((chk C rd)) (tk3 0 6 7) ?_
   exact ⟨(hxc2.trans hx12), (if_pos c3).symm⟩
  refine Wk ?_
  refine X_cut (n) (tk3 0 6 7) ?_
  exact ⟨(hxc2.trans hx12), (if_neg c3).symm⟩
 rintro w9 h15 ⟨hxc3, hw9⟩
 show W _ _ _ _ _ [(0, .pointer (some ⟨s, 0, none⟩)), (6, .int .i64 (e9)), (7, .int .i64 (w9))] _
 have h9e : e9 ≤ 100000000000 ∧ -1 ≤ e9 := by rw [he9]; split <;> omega
 obtain ⟨m, hm, m1, m2, m3⟩ := ramt hl hp hn hck c1 c2 hpf e9 w9 he9 hw9
 have m4 := stp_le (D := D) (f := f) (p := p)
 have hw1 : 1 ≤ w9 ∧ w9 ≤ 512 := by rw [hw9]; split <;> omega
 refine W_cut (S := Unit) (fun _u => [(0, .pointer (some ⟨s, 0, none⟩)), (6, .int .i64 (((p + m : Nat) : Int)))]) (fun _u h' => Ext h h') ?_ ?_
 ·refine Wm ?_
  refine M2 ?_
  refine Ly (Y_nilCheck rfl) ?_
  refine Lf 3 ?_
  refine Lb Tryz.underlying2 (hb.ext hxc3) ?_
  refine Ly (Y_sub rfl rfl (by first | omega | (simp; omega)) (by first | omega | (simp; omega))) ?_
  refine Ly Yls ?_
  refine Nx ?_
  refine Wu _ (tk4 86 0 6 7) ?_
  refine Sd (fun c9 => ?_) fun c9 => ?_
  ·refine Wg ?_
   refine Mv ?_
   refine Ly (Y_nilCheck rfl) ?_
   refine Lf 3 ?_
   refine Lb Tryz.underlying2 (hb.ext hxc3) ?_
   refine Mv ?_
   refine Lad ?_
   refine Av ?_
   refine Ln ?_
   refine X_cut (()) (sk1 0 rfl (sk1 6 (lki rfl (by (rw [if_pos c9] at hm; exact hm))) sN)) ?_
   exact hxc3
  refine Wk ?_
  refine X_cut (()) (sk1 0 rfl (sk1 6 (lki rfl (by (rw [if_neg c9] at hm; exact hm))) sN)) ?_
  exact hxc3
 rintro _u h16 hxc4
 show W _ _ _ _ _ [(0, .pointer (some ⟨s, 0, none⟩)), (6, .int .i64 (((p + m : Nat) : Int)))] _
 refine Wq ?_
 refine W_pers [(0, .pointer (some ⟨s, 0, none⟩)), (6, .int .i64 (((p + m : Nat) : Int)))] (tk2 0 6) (by kernel_rfl) ?_
 refine LP_op 0 (fun hh r16_1 => OwnB hh h16.size r16_1 (([] : List UInt8))) [] rfl rfl (by kernel_rfl) (fun _ _ _ x_ p_ => p_.ext x_) ?_ ?_
 ·intro h17 hx13
  refine Nn ?_
  refine Stp_mks (M_litb (l := ([] : List UInt8)) (cells := []) (pv := []) (E := 5) (evp (is := []) (os := []) (vs := []) rfl rfl) rfl rfl (fun _ => by kernel_rfl)) rfl ?_
  rintro v14 h18 ⟨ho15, hx16⟩
  exact ⟨hx16, (ho15.low hx13.size)⟩
 refine LPc 1 (.pointer (some ⟨s, 0, none⟩)) [] ?_ ?_
 ·intro h19 hx17
  exact Sm
 refine LPc 2 (.pointer (some ⟨s, 0, none⟩)) [(1, 94)] ?_ ?_
 ·intro h20 hx18
  rintro _ rfl
  exact Sy (Y_nilCheck rfl)
 refine LPc 3 (.pointer (some ⟨s, 0 + 0, none⟩)) [(2, 95)] ?_ ?_
 ·intro h21 hx19
  rintro _ rfl
  exact Sf 0
 refine LPc 4 (vb) [(3, 96)] ?_ ?_
 ·intro h22 hx20
  rintro _ rfl
  exact Sb Tryz.underlying22 (hb.ext (hxc4.trans hx20))
 refine LPc 5 (.pointer (some ⟨s, 0, none⟩)) [] ?_ ?_
 ·intro h23 hx21
  exact Sm
 refine LPc 6 (.pointer (some ⟨s, 0, none⟩)) [(5, 98)] ?_ ?_
 ·intro h24 hx22
  rintro _ rfl
  exact Sy (Y_nilCheck rfl)
 refine LPc 7 (.pointer (some ⟨s, 0 + 3, none⟩)) [(6, 99)] ?_ ?_
 ·intro h25 hx23
  rintro _ rfl
  exact Sf 3
 refine LPc 8 (.int .i64 ((p : Int))) [(7, 100)] ?_ ?_
 ·intro h26 hx24
  rintro _ rfl
  exact Sb Tryz.underlying2 (hb.ext (hxc4.trans hx24))
 refine LPc 9 (.int .i64 (((p + m : Nat) : Int))) [] ?_ ?_
 ·intro h27 hx25
  exact Sm
 refine LP_op 10 (fun hh r16_2 => Bytes hh r16_2 ((D.take (((p + m : Nat) : Int)).toNat).drop ((p : Int)).toNat)) [(4, 97), (8, 101), (9, 102)] rfl rfl (by kernel_rfl) (fun _ _ _ x_ p_ => p_.ext x_) ?_ ?_
 ·intro h28 hx26
  rintro _ rfl
  rintro _ rfl
  rintro _ rfl
  refine Nn ?_
  have hb27 : Bytes h28 (slcut 1 ((p : Int)).toNat (((p + m : Nat) : Int)).toNat vb) ((D.take (((p + m : Nat) : Int)).toNat).drop ((p : Int)).toNat) := Bytes.cutb (hb0.ext (hxc4.trans hx26)) (by first | omega | (simp; omega)) (by first | omega | (simp; omega))
  refine Stp_yld (Y_cut Tryz.underlying22 (show _ = some 1 by kernel_rfl) rfl (hb0.ext (hxc4.trans hx26)) rfl rfl (by first | omega | (simp; omega)) (by first | omega | (simp; omega)) (by first | omega | (simp; omega))) rfl ?_
  exact hb27
 refine LP_tail rfl 11 [(0, 93), (10, 103)] rfl rfl (by kernel_rfl) (by kernel_rfl) (by kernel_rfl) rfl ?_
 intro h29 hx28
 intro r16_1 q16_1
 intro r16_2 q16_2
 refine Nn ?_
 refine L_mks (M_appb Tryz.underlying22 (by unfold elemRow; kernel_rfl) rfl rfl q16_1 q16_2 hx28.size (by first | first | omega | (simp; omega) | (simp; first | omega | (simp; omega)))) rfl rfl rfl ?_
 rintro v29 h30 ha30
 refine Av ?_
 refine Ln (Xt (Wq (Wg ?_)))
 refine M2 ?_
 refine Ly (Y_nilCheck rfl) ?_
 refine Lf 3 ?_
 refine Lds [.int .i64 (((p + m : Nat) : Int))] (hb.ext ((hxc4.trans hx28).then' ha30.only ha30.ge hxc4.size)) ?_
 rintro h31 hp31
 have hk32 : Blk h31 s [vb, vc, .int .i64 (f), .int .i64 (((p + m : Nat) : Int)), .int .i64 (rd)] := hp31.blk
 refine Nx ?_
 refine Wu _ (tk2 9 0) ?_
 refine Wm ?_
 refine Ly (Y_nilCheck rfl) ?_
 refine Lf 4 ?_
 refine Lb Tryz.underlying3 hk32 ?_
 refine Lad ?_
 refine Ly (Y_nilCheck rfl) ?_
 refine Lf 4 ?_
 refine Lds [.int .i64 (rd + 1)] hk32 ?_
 rintro h32 hp33
 have hk34 : Blk h32 s [vb, vc, .int .i64 (f), .int .i64 (((p + m : Nat) : Int)), .int .i64 (rd + 1)] := hp33.blk
 refine Nx ?_
 refine Wu _ (tk1 9) ?_
 refine Wm ?_
 refine A2 ?_
 refine Ln (Xt (Wt ?_))
 refine Xv2 ?_
 exact .inr ⟨m, _, _, rfl, ⟨m1, m2, m3⟩, (fun q => q.elim c1 (fun q => c2 (by omega))), OwnB.congr (OwnB.low ((ha30.own.only1 hp31.only (ntl hb.lt hxc4.size)).only1 hp33.only (ntl hb.lt hxc4.size)) hxc4.size) (by rw [List.nil_append, Int.toNat_natCast, Int.toNat_natCast, List.drop_take, Nat.add_sub_cancel_left]), (Only.trans (Only.trans (Only.trans (Only.trans (Only.trans (Only.refl _ _) hxc4 (fun _ hb_ => by cases hb_)) hx28 (fun _ hb_ => by cases hb_)) ha30.only (fun b_ hb_ => .inr (nt hxc4.size (ha30.ge b_ hb_)))) hp31.only (fun b_ hb_ => .inl (by simp only [List.mem_cons, List.not_mem_nil, or_false] at hb_ ⊢; omega))) hp33.only (fun b_ hb_ => .inl (by simp only [List.mem_cons, List.not_mem_nil, or_false] at hb_ ⊢; omega))), hk34, by omega⟩
section
variable {lo hi : Nat} {h : Heap} {s r : Nat} {D : List UInt8} {f : Int} {p : Nat}
theorem srb_ReadN (S : SrcB lo hi h s r D f p) (he : (p : Int) = f ∨ D.length ≤ p) (hl : D.length ≤ 100000000000) (hf : -9223372036854775808 ≤ f ∧ f ≤ 9223372036854775807) {n : Int} (hn : 1 ≤ n ∧ n ≤ 512) :
    Cal Tryz.prog 64 #[.pointer (some ⟨s, 0, none⟩), .int .i64 n] h (fun v h' => v = .tuple #[.slice none 0 0, .int .i64 (if (p : Int) = f then 11 else 4)] ∧ Ext h h') := by
  obtain ⟨⟨vr, vc, C, rd, a1, a2, a3, a4, a5, a6, a7⟩, le, rg, ff⟩ := S
  refine (ref04_Read h s vr D a2 vc C a3 f p rd a1 n a5 a4 hl le hn hf ff).mono fun v h' q => ?_
  rcases q with ⟨q1, q2, q3⟩ | ⟨m, bv, rd', q1, q2, q3, _⟩
  · exact ⟨q1, q3⟩
  · exact absurd he q3
theorem srb_ReadY (S : SrcB lo hi h s r D f p) (he : ¬ ((p : Int) = f ∨ D.length ≤ p)) (hl : D.length ≤ 100000000000) (hf : -9223372036854775808 ≤ f ∧ f ≤ 9223372036854775807) {n : Int} (hn : 1 ≤ n ∧ n ≤ 512) :
    Cal Tryz.prog 64 #[.pointer (some ⟨s, 0, none⟩), .int .i64 n] h (fun v h' => ∃ (m : Nat) (bv : Value), v = .tuple #[bv, .int .i64 0] ∧ (1 ≤ m ∧ (m : Int) ≤ n ∧ p + m ≤ stp D f p) ∧ OwnB h' h.size bv ((D.drop p).take m) ∧ Only [s] h h' ∧ SrcB lo hi h' s r D f (p + m)) := by
  obtain ⟨⟨vr, vc, C, rd, a1, a2, a3, a4, a5, a6, a7⟩, le, rg, ff⟩ := S
  refine (ref04_Read h s vr D a2 vc C a3 f p rd a1 n a5 a4 hl le hn hf ff).mono fun v h' q => ?_
  rcases q with ⟨q1, q2, q3⟩ | ⟨m, bv, rd', q1, q2, q3, q4, q5, q6, q8⟩
  · exact absurd q2 he
  · have hm := stp_le (D := D) (f := f) (p := p)
    refine ⟨m, bv, q1, q2, q4, q5, ⟨vr, vc, C, rd', q6, Bytes.only a2 q5 (fun d hd q => (a6 d hd).2.1 (List.mem_singleton.1 q)), a3.onlyI q5 (fun d hd q => (a7 d hd).2.1 (List.mem_singleton.1 q)), q8, a5, a6, a7⟩, by omega, ⟨rg.1, rg.2.1, nt rg.2.2 q5.size⟩, fun h0 => ?_⟩
    have h1 := ff h0
    have h2 := q2.2.2
    unfold stp at h2
    rw [if_pos h1] at h2
    omega
end
end Go.Xp
