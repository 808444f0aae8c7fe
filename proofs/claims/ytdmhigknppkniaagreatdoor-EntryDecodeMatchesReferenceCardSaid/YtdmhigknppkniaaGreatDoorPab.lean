/- The reference of layer 6: a reader of blocks. -/
import Derived.Test.YtdmhigknppkniaaGreatDoorSrb
import Derived.Test.YtdmhigknppkniaaGreatDoorPay
set_option linter.unusedSimpArgs false
set_option linter.unusedVariables false
set_option linter.unusedSectionVars false
set_option maxRecDepth 100000
namespace Go.Xp
open Go.Proofs

theorem ref06_Next (h : Heap) (lo hi r s : Nat) (D : List UInt8) (f : Int) (p : Nat) (er : Int) (uS : SrcB lo hi h s r D f p) (hb : Blk h r [.pointer (some ⟨s, 0, none⟩), .int .i64 (p : Int), .int .i64 er]) (hl : D.length ≤ 100000000000) (hf : -9223372036854775808 ≤ f ∧ f ≤ 9223372036854775807) : Cal Tryz.prog 26 #[.pointer (some ⟨r, 0, none⟩)] h (fun v h' => ∃ bv, v = .tuple #[bv, .int .i64 (nE D f p er)] ∧ (nE D f p er = 0 → OwnB h' h.size bv (nB D p)) ∧ (¬ nE D f p er = 0 → bv = .slice none 0 0) ∧ Only [r, s] h h' ∧ Blk h' r [.pointer (some ⟨s, 0, none⟩), .int .i64 (nP D f p er : Int), .int .i64 (nE D f p er)] ∧ SrcB lo hi h' s r D f (nP D f p er)) := by
 have hp := uS.le
 have hsl := stp_le (D := D) (f := f) (p := p)
 refine Ce Tryz.func26 fun σ => ?_
 refine Wa ?_
 refine Av ?_
 refine Ln (Xt (Wq (Wq (Wg ?_))))
 refine Mv ?_
 refine Ly (Y_nilCheck rfl) ?_
 refine Lf 2 ?_
 refine Lb Tryz.underlying3 hb ?_
 refine Ly Yne ?_
 refine Nx ?_
 refine Sd (fun e0 => ?_) fun e0 => ?_
 ·refine Wq ?_
  refine W_quiet (fun h' => h' = h) (by kernel_rfl) (by kernel_rfl) rfl ?_
  refine Qm ?_
  refine Qy (Y_nilCheck rfl) ?_
  refine Qy (Y_fieldAddr (off := 2) (by kernel_rfl) rfl rfl) ?_
  refine Qy (Y_ldblk Tryz.underlying3 rfl rfl hb rfl) ?_
  refine Qa ?_
  refine Qa ?_
  refine LQ_nil ?_
  rintro h rfl
  refine Xt ?_
  refine Wu _ (tk3 3 2 0) ?_
  refine Wt (Xr ?_)
  refine Xv2 ?_
  have q1 := (nE_er (D := D) (f := f) (p := p) e0).1
  have q2 := (nE_er (D := D) (f := f) (p := p) e0).2
  exact ⟨.slice none 0 0, by rw [q1], fun q => absurd q (by rw [q1]; exact e0), fun _ => rfl, (Only.refl _ _), by rw [q1, q2]; exact hb, by rw [q2]; exact uS⟩
 refine Ws ?_
 have e00 : er = 0 := Classical.not_not.1 e0
 refine Wa ?_
 refine Ln (Xt (Wq (Wb ?_)))
 refine W_loop (S := Nat × Value) (fun (m, vb) => [(0, .pointer (some ⟨r, 0, none⟩)), (4, vb)]) (fun (m, vb) h' => m ≤ 512 ∧ p + m ≤ stp D f p ∧ Only [r, s] h h' ∧ OwnB h' h.size vb ((D.drop p).take m) ∧ Blk h' r [.pointer (some ⟨s, 0, none⟩), .int .i64 ((p + m : Nat) : Int), .int .i64 er] ∧ SrcB lo hi h' s r D f (p + m)) (fun (m, vb) => 512 - m) (0, (.slice none 0 0)) (tk2 0 4) ?_ ?_
 ·exact ⟨by omega, stp_ge hp, (Only.refl _ _), (OwnB.nil _ _), hb, uS⟩
 rintro ⟨m, vb⟩ h1 ⟨hm, hms, uOn, uo, ubk, uSL⟩
 show W _ _ _ _ _ [(0, .pointer (some ⟨r, 0, none⟩)), (4, vb)] _
 have hln : ((D.drop p).take m).length = m := by rw [List.length_take, List.length_drop]; omega
 refine Wq (Wq (Wg ?_))
 refine Mv ?_
 refine Ly (Y_len Tryz.underlying22 rfl uo.bytes) ?_
 refine Ly Yls ?_
 refine Nx ?_
 refine Sd (fun c9 => ?_) fun c9 => ?_
 ·refine Ws ?_
  by_cases he : ((p + m : Nat) : Int) = f ∨ D.length ≤ p + m
  ·refine Wb (Wq (Wg ?_))
   refine Mv ?_
   refine Ly (Y_nilCheck rfl) ?_
   refine Lf 0 ?_
   refine Lb Tryz.underlying32 ubk ?_
   refine Mv ?_
   refine Ly (Y_len Tryz.underlying22 rfl uo.bytes) ?_
   refine Ly (Y_sub rfl rfl (by omega) (by omega)) ?_
   refine L_call (E_call (by kernel_rfl) rfl) (srb_ReadN uSL he hl hf (by omega)) rfl rfl rfl ?_
   rintro _ h2 ⟨rfl, ux1⟩
   refine Mx ?_
   refine A2 ?_
   refine Nx ?_
   refine Wu _ (tk4 6 5 0 4) ?_
   have hst : stp D f p = p + m := (stp_mv (by omega) hms).symm.trans (stp_end (by omega) he)
   have hno := nE_no (D := D) (f := f) (p := p) (by omega)
   rw [hst] at hno
   refine Wq ?_
   by_cases c11 : ((p + m : Nat) : Int) = f
   ·refine Wm ?_
    refine Ly Yne ?_
    refine Nx ?_
    refine W_known true rfl (by exact decide_eq_true (by rw [if_pos c11]; decide)) ?_
    refine Wm ?_
    refine Mv ?_
    refine Ly (Y_nilCheck rfl) ?_
    refine Lf 2 ?_
    refine Lds [.int .i64 ((if ((p + m : Nat) : Int) = f then 11 else 4))] (ubk.ext ux1) ?_
    rintro h3 hp1
    have hk2 : Blk h3 r [.pointer (some ⟨s, 0, none⟩), .int .i64 (((p + m : Nat) : Int)), .int .i64 ((if ((p + m : Nat) : Int) = f then 11 else 4))] := hp1.blk
    refine Nx ?_
    refine Wu _ (tk4 6 5 0 4) ?_
    refine Wq (Wq (Wg ?_))
    refine Mv ?_
    refine Ly Yeq ?_
    refine Mv ?_
    refine L_known (d := 38) false rfl (by exact decide_eq_false (by rw [if_pos c11]; decide)) ?_
    refine Sk2 ?_
    refine Skp ?_
    refine Ly Ypf ?_
    refine Nx ?_
    refine Wu _ (tk4 42 5 0 4) ?_
    refine W_false rfl ?_
    refine Wk (Xt (Wq ?_))
    refine W_quiet (fun h' => h' = h3) (by kernel_rfl) (by kernel_rfl) rfl ?_
    refine Qm ?_
    refine Qy (Y_nilCheck rfl) ?_
    refine Qy (Y_fieldAddr (off := 2) (by kernel_rfl) rfl rfl) ?_
    refine Qy (Y_ldblk Tryz.underlying3 rfl rfl hk2 rfl) ?_
    refine Qa ?_
    refine Qa ?_
    refine LQ_nil ?_
    rintro h3 rfl
    refine Xt (Wt (Xr (Yr (Xr (Yr (Xr ?_))))))
    refine Xv2 ?_
    rw [if_pos c11] at hno
    exact ⟨.slice none 0 0, by rw [e00, hno.1, if_pos c11], fun q => absurd q (by rw [e00, hno.1]; decide), fun _ => rfl, (Only.trans (Only.trans uOn ux1 (fun _ hb_ => by cases hb_)) hp1.only (fun b_ hb_ => .inl (by rw [List.mem_singleton.1 hb_]; simp))), by rw [e00, hno.1, hno.2]; have q9 := hk2; rw [if_pos c11] at q9; exact q9, by rw [e00, hno.2]; exact (SrcB.out (uSL.ext ux1) hp1.only (fun b hb => .inr (List.mem_singleton.1 hb)))⟩
   refine Wm ?_
   refine Ly Yne ?_
   refine Nx ?_
   refine W_known true rfl (by exact decide_eq_true (by rw [if_neg c11]; decide)) ?_
   refine Wm ?_
   refine Mv ?_
   refine Ly (Y_nilCheck rfl) ?_
   refine Lf 2 ?_
   refine Lds [.int .i64 ((if ((p + m : Nat) : Int) = f then 11 else 4))] (ubk.ext ux1) ?_
   rintro h4 hp3
   have hk4 : Blk h4 r [.pointer (some ⟨s, 0, none⟩), .int .i64 (((p + m : Nat) : Int)), .int .i64 ((if ((p + m : Nat) : Int) = f then 11 else 4))] := hp3.blk
   refine Nx ?_
   refine Wu _ (tk4 6 5 0 4) ?_
   have uS7 := SrcB.out (uSL.ext ux1) hp3.only (fun b hb => .inr (List.mem_singleton.1 hb))
   refine Wq ?_
   by_cases m0 : m = 0
   ·refine Wm ?_
    refine Ly Yeq ?_
    refine Mv ?_
    refine L_known (d := 38) true rfl (by exact decide_eq_true (by rw [if_neg c11])) ?_
    refine Mv ?_
    refine Ly (Y_len Tryz.underlying22 rfl ((uo.ext ux1).only1 hp3.only (ntl hb.lt (Nat.le_refl _))).bytes) ?_
    refine Ly (Y_gtr rfl rfl) ?_
    refine Ly Ypt ?_
    refine Nx ?_
    refine Wu _ (tk4 42 5 0 4) ?_
    refine W_known false rfl (by exact decide_eq_false (by rw [hln, m0]; decide)) ?_
    refine Wk (Xt (Wq ?_))
    refine W_quiet (fun h' => h' = h4) (by kernel_rfl) (by kernel_rfl) rfl ?_
    refine Qm ?_
    refine Qy (Y_nilCheck rfl) ?_
    refine Qy (Y_fieldAddr (off := 2) (by kernel_rfl) rfl rfl) ?_
    refine Qy (Y_ldblk Tryz.underlying3 rfl rfl hk4 rfl) ?_
    refine Qa ?_
    refine Qa ?_
    refine LQ_nil ?_
    rintro h4 rfl
    refine Xt (Wt (Xr (Yr (Xr (Yr (Xr ?_))))))
    refine Xv2 ?_
    rw [if_neg c11, if_pos (by omega)] at hno
    exact ⟨.slice none 0 0, by rw [e00, hno.1, if_neg c11], fun q => absurd q (by rw [e00, hno.1]; decide), fun _ => rfl, (Only.trans (Only.trans uOn ux1 (fun _ hb_ => by cases hb_)) hp3.only (fun b_ hb_ => .inl (by rw [List.mem_singleton.1 hb_]; simp))), by rw [e00, hno.1, hno.2]; have q9 := hk4; rw [if_neg c11] at q9; exact q9, by rw [e00, hno.2]; exact uS7⟩
   refine Wm ?_
   refine Ly Yeq ?_
   refine Mv ?_
   refine L_known (d := 38) true rfl (by exact decide_eq_true (by rw [if_neg c11])) ?_
   refine Mv ?_
   refine Ly (Y_len Tryz.underlying22 rfl ((uo.ext ux1).only1 hp3.only (ntl hb.lt (Nat.le_refl _))).bytes) ?_
   refine Ly (Y_gtr rfl rfl) ?_
   refine Ly Ypt ?_
   refine Nx ?_
   refine Wu _ (tk4 42 5 0 4) ?_
   refine W_known true rfl (by exact decide_eq_true (by rw [hln]; omega)) ?_
   refine Wg ?_
   refine Mv ?_
   refine Ly (Y_nilCheck rfl) ?_
   refine Lf 2 ?_
   refine Lds [.int .i64 5] hk4 ?_
   rintro h5 hp5
   have hk6 : Blk h5 r [.pointer (some ⟨s, 0, none⟩), .int .i64 (((p + m : Nat) : Int)), .int .i64 5] := hp5.blk
   refine Ln (Xt (Wq ?_))
   refine W_quiet (fun h' => h' = h5) (by kernel_rfl) (by kernel_rfl) rfl ?_
   refine Qm ?_
   refine Qy (Y_nilCheck rfl) ?_
   refine Qy (Y_fieldAddr (off := 2) (by kernel_rfl) rfl rfl) ?_
   refine Qy (Y_ldblk Tryz.underlying3 rfl rfl hk6 rfl) ?_
   refine Qa ?_
   refine Qa ?_
   refine LQ_nil ?_
   rintro h5 rfl
   refine Xt ?_
   refine Wu _ (tk5 3 2 5 0 4) ?_
   refine Wt (Xr (Yr (Xr (Yr (Xr ?_)))))
   refine Xv2 ?_
   rw [if_neg c11, if_neg (by omega)] at hno
   exact ⟨.slice none 0 0, by rw [e00, hno.1], fun q => absurd q (by rw [e00, hno.1]; decide), fun _ => rfl, (Only.trans (Only.trans (Only.trans uOn ux1 (fun _ hb_ => by cases hb_)) hp3.only (fun b_ hb_ => .inl (by rw [List.mem_singleton.1 hb_]; simp))) hp5.only (fun b_ hb_ => .inl (by rw [List.mem_singleton.1 hb_]; simp))), by rw [e00, hno.1, hno.2]; exact hk6, by rw [e00, hno.2]; exact (SrcB.out uS7 hp5.only (fun b hb => .inr (List.mem_singleton.1 hb)))⟩
  refine Wb (Wq (Wg ?_))
  refine Mv ?_
  refine Ly (Y_nilCheck rfl) ?_
  refine Lf 0 ?_
  refine Lb Tryz.underlying32 ubk ?_
  refine Mv ?_
  refine Ly (Y_len Tryz.underlying22 rfl uo.bytes) ?_
  refine Ly (Y_sub rfl rfl (by omega) (by omega)) ?_
  refine L_call (E_call (by kernel_rfl) rfl) (srb_ReadY uSL he hl hf (by omega)) rfl rfl rfl ?_
  rintro _ h6 ⟨m1, uvx, rfl, hm1, uLx, uyx, uSx⟩
  refine Mx ?_
  refine A2 ?_
  refine Nx ?_
  refine Wu _ (tk4 6 5 0 4) ?_
  refine Wq (Wq (Wg ?_))
  refine Mv ?_
  refine Ly Yne ?_
  refine Nx ?_
  refine W_known false rfl (by first | rfl | decide | simp) ?_
  refine Wk (Xt (Wq (Wg ?_)))
  refine M2 ?_
  refine L_mks (M_appb Tryz.underlying22 (by unfold elemRow; kernel_rfl) rfl rfl (uo.only1 uyx (ntl uS.lt (Nat.le_refl _))) uLx.bytes (nt uOn.size uyx.size) (by first | omega | (simp; omega))) rfl rfl rfl ?_
  rintro v7 h7 ha8
  refine An ?_
  refine Wu _ (tk3 4 5 0) ?_
  have uSy := SrcB.out uSx ha8.only (fun b hb => .inl (.inr (nt uS.rg.2.2 (ha8.ge b hb))))
  have hlx : ((D.drop (p + m)).take m1).length = m1 := by rw [List.length_take, List.length_drop]; have := stp_le (D := D) (f := f) (p := p + m); omega
  have hmv := stp_mv (D := D) (f := f) (p := p) (q := p + m) (by omega) hms
  refine Wg ?_
  refine Mv ?_
  refine Ly (Y_nilCheck rfl) ?_
  refine Lf 1 ?_
  have hc9 := ((ubk.only uyx (fun hb_ => uS.rg.2.1.symm (List.mem_singleton.1 hb_))).only ha8.only (fun hb_ => Nat.lt_irrefl _ (ntl (ntl hb.lt (Nat.le_refl _)) (ha8.ge _ hb_))))
  refine Lb Tryz.underlying2 hc9 ?_
  refine Mv ?_
  refine Ly (Y_len Tryz.underlying22 rfl (show OwnB _ _ _ _ from Own.only uLx ha8.only (fun b_ hb_ hM_ => (Nat.lt_irrefl _ (ntl (Own.lt uo b_ (by simpa using hM_)).2 (nt (Nat.le_refl _) (Own.lt uLx b_ hb_).1))))).bytes) ?_
  refine Lad ?_
  refine Ly (Y_nilCheck rfl) ?_
  refine Lf 1 ?_
  refine Lds [.int .i64 (((p + m : Nat) : Int) + (((D.drop (p + m)).take m1).length : Int))] hc9 ?_
  rintro h8 hp10
  have hk11 : Blk h8 r [.pointer (some ⟨s, 0, none⟩), .int .i64 (((p + m : Nat) : Int) + (((D.drop (p + m)).take m1).length : Int)), .int .i64 (er)] := hp10.blk
  refine Ln (Xb ?_)
  refine X_loop ((m + m1, v7)) (tk2 0 4) ?_ ?_
  ·exact ⟨by omega, by rw [hmv] at hm1; omega, (Only.trans (Only.trans (Only.trans uOn uyx (fun b_ hb_ => .inl (by rw [List.mem_singleton.1 hb_]; simp))) ha8.only (fun b_ hb_ => .inr (nt (Nat.le_refl _) (ha8.ge b_ hb_)))) hp10.only (fun b_ hb_ => .inl (by rw [List.mem_singleton.1 hb_]; simp))), OwnB.congr (ha8.own.only1 hp10.only (ntl hb.lt (Nat.le_refl _))) take_more, by rw [show ((p + (m + m1) : Nat) : Int) = ((p + m : Nat) : Int) + (((D.drop (p + m)).take m1).length : Int) by rw [hlx]; omega]; exact hk11, by rw [← Nat.add_assoc]; exact (SrcB.out uSy hp10.only (fun b hb => .inr (List.mem_singleton.1 hb)))⟩
  (try dsimp only)
  omega
 refine W_exit ?_
 refine Xe (Xe ?_)
 refine X_block_hit ?_
 refine Xt ?_
 obtain rfl : m = 512 := by omega
 refine Wm ?_
 refine A2 ?_
 refine Nx ?_
 refine Wu _ (tk2 3 2) ?_
 refine Wt ?_
 refine Xv2 ?_
 have hok := nE_ok (D := D) (f := f) (p := p) hms
 exact ⟨_, by rw [e00, hok.1], fun _ => uo, fun q => absurd (by rw [e00, hok.1]) q, uOn, by rw [e00, hok.1, hok.2]; have q9 := ubk; rw [e00] at q9; exact q9, by rw [e00, hok.2]; exact uSL⟩
end Go.Xp

/- The reference of layers 6 and 11: the reader behind one pointer; reading contents. -/
namespace Go.Xp
open Go.Proofs

structure RdB (lo hi : Nat) (h : Heap) (r s : Nat) (D : List UInt8) (f : Int) (p : Nat) (er : Int) : Prop where
  blk : Blk h r [.pointer (some ⟨s, 0, none⟩), .int .i64 (p : Int), .int .i64 er]
  src : SrcB lo hi h s r D f p
  rg : lo ≤ r ∧ r < hi
section
variable {lo hi : Nat} {h h' : Heap} {r s : Nat} {D : List UInt8} {f : Int} {p : Nat} {er : Int} {bs : List Nat}
theorem RdB.out (R : RdB lo hi h r s D f p er) (y : Only bs h h') (hb : ∀ b ∈ bs, b < lo ∨ hi ≤ b) : RdB lo hi h' r s D f p er :=
  ⟨R.blk.only y (fun q => by have := hb _ q; have := R.rg; omega), R.src.out y (fun b q => .inl (hb b q)), R.rg⟩
theorem RdB.ext (R : RdB lo hi h r s D f p er) (y : Ext h h') : RdB lo hi h' r s D f p er := R.out y (fun b q => absurd q List.not_mem_nil)
theorem RdB.hle (R : RdB lo hi h r s D f p er) : hi ≤ h.size := R.src.rg.2.2
theorem RdB.lt2 (R : RdB lo hi h r s D f p er) : ∀ c ∈ [r, s], c < h.size := fun c hc => by
  have h1 := R.rg; have h2 := R.src.rg
  simp only [List.mem_cons, List.not_mem_nil, or_false] at hc
  rcases hc with rfl | rfl <;> omega
theorem RdB.ge2 (R : RdB lo hi h r s D f p er) : ∀ c ∈ [r, s], lo ≤ c := fun c hc => by
  have h1 := R.rg; have h2 := R.src.rg
  simp only [List.mem_cons, List.not_mem_nil, or_false] at hc
  rcases hc with rfl | rfl <;> omega
theorem RdB.no (R : RdB lo hi h r s D f p er) {d : Nat} (hd : hi ≤ d) : d ∉ [r, s] := fun hc => by
  have h1 := R.rg; have h2 := R.src.rg
  simp only [List.mem_cons, List.not_mem_nil, or_false] at hc
  omega
theorem rdb_Next (R : RdB lo hi h r s D f p er) (hl : D.length ≤ 100000000000) (hf : -9223372036854775808 ≤ f ∧ f ≤ 9223372036854775807) :
    Cal Tryz.prog 26 #[.pointer (some ⟨r, 0, none⟩)] h (fun v h' => ∃ bv, v = .tuple #[bv, .int .i64 (nE D f p er)] ∧ (nE D f p er = 0 → OwnB h' h.size bv (nB D p)) ∧ (¬ nE D f p er = 0 → bv = .slice none 0 0) ∧ Only [r, s] h h' ∧ RdB lo hi h' r s D f (nP D f p er) (nE D f p er)) :=
  (ref06_Next h lo hi r s D f p er R.src R.blk hl hf).mono fun v h' ⟨bv, q1, q2, q3, q4, q5, q6⟩ => ⟨bv, q1, q2, q3, q4, q5, q6, R.rg⟩
theorem rdb_NextO (R : RdB lo hi h r s D f p er) (e : nE D f p er = 0) (hl : D.length ≤ 100000000000) (hf : -9223372036854775808 ≤ f ∧ f ≤ 9223372036854775807) :
    Cal Tryz.prog 26 #[.pointer (some ⟨r, 0, none⟩)] h (fun v h' => ∃ bv, v = .tuple #[bv, .int .i64 0] ∧ OwnB h' h.size bv (nB D p) ∧ Only [r, s] h h' ∧ RdB lo hi h' r s D f (p + 512) 0) :=
  (rdb_Next R hl hf).mono fun v h' ⟨bv, q1, q2, q3, q4, q5⟩ => ⟨bv, by rw [q1, e], q2 e, q4, by have := (nE_pos e).2.2; rw [e, this] at q5; exact q5⟩
theorem rdb_NextN (R : RdB lo hi h r s D f p er) (e : ¬ nE D f p er = 0) (hl : D.length ≤ 100000000000) (hf : -9223372036854775808 ≤ f ∧ f ≤ 9223372036854775807) :
    Cal Tryz.prog 26 #[.pointer (some ⟨r, 0, none⟩)] h (fun v h' => v = .tuple #[.slice none 0 0, .int .i64 (nE D f p er)] ∧ Only [r, s] h h' ∧ RdB lo hi h' r s D f (nP D f p er) (nE D f p er)) :=
  (rdb_Next R hl hf).mono fun v h' ⟨bv, q1, q2, q3, q4, q5⟩ => ⟨by rw [q1, q3 e], q4, q5⟩
end
theorem byt_dropz {l : List UInt8} {a i : Nat} : byt (l.drop a) i = byt l (a + i) := by
  unfold byt
  rw [List.getD_eq_getElem?_getD, List.getD_eq_getElem?_getD, List.getElem?_drop]
theorem nblk_low {z : Int} (hz : 1 ≤ z) : 512 * (nblk z - 1) < z := by unfold nblk; split <;> omega
theorem ref11_Read (h : Heap) (lo hi r s : Nat) (D : List UInt8) (f : Int) (p : Nat) (uR : RdB lo hi h r s D f p 0) (hb : Blk h r [.pointer (some ⟨s, 0, none⟩), .int .i64 (p : Int), .int .i64 0]) (z : Int) (hl : D.length ≤ 100000000000) (hf : -9223372036854775808 ≤ f ∧ f ≤ 9223372036854775807) (hz : 1 ≤ z ∧ z ≤ 262144) : Cal Tryz.prog 70 #[.pointer (some ⟨r, 0, none⟩), .int .i64 (z)] h (fun v h' => Only [r, s] h h' ∧ ((¬ pE D f p (nblk z).toNat = 0 ∧ v = .tuple #[.slice none 0 0, .int .i64 (pP D f p (nblk z).toNat : Int), .int .i64 (pE D f p (nblk z).toNat)] ∧ RdB lo hi h' r s D f (pP D f p (nblk z).toNat) (pR D f p (nblk z).toNat)) ∨ (pE D f p (nblk z).toNat = 0 ∧ RdB lo hi h' r s D f (p + 512 * (nblk z).toNat) 0 ∧ 0 ≤ nzx (((D.drop p).take (512 * (nblk z).toNat)).drop z.toNat) ∧ v = .tuple #[.slice none 0 0, .int .i64 ((p : Int) + z + nzx (((D.drop p).take (512 * (nblk z).toNat)).drop z.toNat)), .int .i64 10]) ∨ (pE D f p (nblk z).toNat = 0 ∧ RdB lo hi h' r s D f (p + 512 * (nblk z).toNat) 0 ∧ ¬ 0 ≤ nzx (((D.drop p).take (512 * (nblk z).toNat)).drop z.toNat) ∧ ∃ bv, v = .tuple #[bv, .int .i64 ((p + 512 * (nblk z).toNat : Nat) : Int), .int .i64 0] ∧ Bytes h' bv (((D.drop p).take (512 * (nblk z).toNat)).take z.toNat)))) := by
 have hp := uR.src.le
 have hk := nblk_rng hz
 have hkl := nblk_low hz.1
 have hsl := stp_le (D := D) (f := f) (p := p)
 refine Ce Tryz.func70 fun σ => ?_
 refine Wa ?_
 refine A2 ?_
 refine Ln (Xt (Wq (Wq (Wg ?_))))
 refine Mv ?_
 refine Ly Yls ?_
 refine Mv ?_
 refine L_known (d := 14) false rfl (by exact decide_eq_false (by omega)) ?_
 refine Mv ?_
 refine Ly (Y_gtr rfl rfl) ?_
 refine Ly Ypf ?_
 refine Nx ?_
 refine W_known false rfl (by exact decide_eq_false (by omega)) ?_
 refine Ws ?_
 refine Wu _ (tk5 6 5 4 0 1) ?_
 refine Wm ?_
 refine Ly (Y_nilCheck rfl) ?_
 refine Lf 1 ?_
 refine Lb Tryz.underlying2 hb ?_
 refine Av ?_
 refine Ln (Xt (Wq (Wg ?_)))
 refine Av ?_
 refine Ln (Xt (Wq (Wb ?_)))
 refine W_loop (S := Nat × Value) (fun (j, vb) => [(7, .int .i64 ((p : Int))), (0, .pointer (some ⟨r, 0, none⟩)), (1, .int .i64 (z)), (8, vb)]) (fun (j, vb) h' => j ≤ (nblk z).toNat ∧ p + 512 * j ≤ stp D f p ∧ Only [r, s] h h' ∧ OwnB h' h.size vb ((D.drop p).take (512 * j)) ∧ RdB lo hi h' r s D f (p + 512 * j) 0 ∧ Blk h' r [.pointer (some ⟨s, 0, none⟩), .int .i64 ((p + 512 * j : Nat) : Int), .int .i64 0]) (fun (j, vb) => (nblk z).toNat - j) (0, .slice none 0 0) (tk4 7 0 1 8) ?_ ?_
 ·exact ⟨Nat.zero_le _, stp_ge hp, (Only.refl _ _), OwnB.nil _ _, uR, hb⟩
 rintro ⟨j, vb⟩ h1 ⟨hj, hms, uOn, uo, uRj, ubk⟩
 show W _ _ _ _ _ [(7, .int .i64 ((p : Int))), (0, .pointer (some ⟨r, 0, none⟩)), (1, .int .i64 (z)), (8, vb)] _
 have hlb : ((D.drop p).take (512 * j)).length = 512 * j := by rw [List.length_take, List.length_drop]; omega
 refine Wq (Wq (Wg ?_))
 refine Mv ?_
 refine Ly (Y_len Tryz.underlying22 rfl uo.bytes) ?_
 refine Mv ?_
 refine Ly Yls ?_
 refine Nx ?_
 refine Sd (fun c => ?_) fun c => ?_
 ·refine Ws ?_
  have hjk : j < (nblk z).toNat := by rw [hlb] at c; omega
  by_cases eN : nE D f (p + 512 * j) 0 = 0
  ·refine Wb (Wq (Wg ?_))
   refine Mv ?_
   refine Lc (rdb_NextO uRj eN hl hf) ?_
   rintro _ h2 ⟨uvx, rfl, uLx, uyx, uRx⟩
   have hbx := uRx.blk
   refine Mx ?_
   refine A2 ?_
   refine Nx ?_
   refine Wu _ (tk6 10 9 7 0 1 8) ?_
   refine Wq (Wq (Wg ?_))
   refine Mv ?_
   refine Ly Yeq ?_
   refine Nx ?_
   refine W_known false rfl (by first | rfl | decide | simp) ?_
   refine Wk (Xt (Wq (Wq (Wg ?_))))
   refine Mv ?_
   refine Ly Yne ?_
   refine Nx ?_
   refine W_known false rfl (by first | rfl | decide | simp) ?_
   refine Ws ?_
   have hlnB : (nB D (p + 512 * j)).length ≤ 512 := by unfold nB; rw [List.length_take]; omega
   have hen := (nE_pos eN).2.1
   have hmv := stp_mv (D := D) (f := f) (p := p) (q := p + 512 * j) (by omega) hms
   refine Wg ?_
   refine M2 ?_
   refine L_mks (M_appb Tryz.underlying22 (by unfold elemRow; kernel_rfl) rfl rfl (show OwnB _ _ _ _ from Own.only uo uyx (fun b_ hb_ hM_ => Nat.lt_irrefl _ (ntl (uR.lt2 _ hM_) (nt (Nat.le_refl _) (Own.lt uo b_ hb_).1)))) uLx.bytes (nt uOn.size uyx.size) (by first | omega | (simp; omega))) rfl rfl rfl ?_
   rintro v1 h3 ha2
   refine Av ?_
   refine Ln (Xb ?_)
   refine X_loop ((j + 1, v1)) (tk4 7 0 1 8) ?_ ?_
   ·have uRy := RdB.out uRx ha2.only (fun b hb => .inr (nt uR.hle (ha2.ge b hb)))
    rw [show p + 512 * j + 512 = p + 512 * (j + 1) by omega] at uRy
    exact ⟨by omega, by rw [hmv] at hen; omega, (Only.trans (Only.trans uOn uyx (fun b_ hb_ => .inl (by simp only [List.mem_cons, List.not_mem_nil, or_false] at hb_ ⊢; omega))) ha2.only (fun b_ hb_ => .inr (nt (Nat.le_refl _) (ha2.ge b_ hb_)))), OwnB.congr ha2.own take_blk, uRy, uRy.blk⟩
   (try dsimp only)
   omega
  refine Wb (Wq (Wg ?_))
  refine Mv ?_
  refine Lc (rdb_NextN uRj eN hl hf) ?_
  rintro _ h4 ⟨rfl, uyx, uRx⟩
  have hbx := uRx.blk
  refine Mx ?_
  refine A2 ?_
  refine Nx ?_
  refine Wu _ (tk6 10 9 7 0 1 8) ?_
  have hpf := pE_fail (k := (nblk z).toNat) hp hms hjk eN
  have hne : ¬ pE D f p (nblk z).toNat = 0 := by rw [hpf.1]; split; decide; exact eN
  refine Wq (Wq (Wg ?_))
  refine Mv ?_
  refine Ly Yeq ?_
  refine Nx ?_
  refine Sd (fun e4 => ?_) fun e4 => ?_
  ·refine Wg ?_
   refine Av ?_
   refine Ln (Xt (Wq (Wq (Wg ?_))))
   refine Mv ?_
   refine Ly Yne ?_
   refine Nx ?_
   refine W_known true rfl (by first | rfl | decide | simp) ?_
   refine Wq ?_
   refine W_quiet (fun h' => h' = h4) (by kernel_rfl) (by kernel_rfl) rfl ?_
   refine Qm ?_
   refine Qy (Y_nilCheck rfl) ?_
   refine Qy (Y_fieldAddr (off := 1) (by kernel_rfl) rfl rfl) ?_
   refine Qy (Y_ldblk Tryz.underlying2 rfl rfl hbx rfl) ?_
   refine Qm ?_
   refine Qa ?_
   refine Qa ?_
   refine Qa ?_
   refine LQ_nil ?_
   rintro h4 rfl
   refine Xt ?_
   refine Wu _ (tk8 6 5 4 9 7 0 1 8) ?_
   refine Wt (Xr (Yr (Xr (Yr (Xr ?_)))))
   refine Xv3 ?_
   exact ⟨(Only.trans uOn uyx (fun b_ hb_ => .inl (by simp only [List.mem_cons, List.not_mem_nil, or_false] at hb_ ⊢; omega))), .inl ⟨hne, by rw [hpf.1, hpf.2.2, if_pos e4], by rw [hpf.2.1, hpf.2.2]; exact uRx⟩⟩
  refine Wk (Xt (Wq (Wq (Wg ?_))))
  refine Mv ?_
  refine Ly Yne ?_
  refine Nx ?_
  refine W_known true rfl (by exact decide_eq_true (by exact eN)) ?_
  refine Wq ?_
  refine W_quiet (fun h' => h' = h4) (by kernel_rfl) (by kernel_rfl) rfl ?_
  refine Qm ?_
  refine Qy (Y_nilCheck rfl) ?_
  refine Qy (Y_fieldAddr (off := 1) (by kernel_rfl) rfl rfl) ?_
  refine Qy (Y_ldblk Tryz.underlying2 rfl rfl hbx rfl) ?_
  refine Qm ?_
  refine Qa ?_
  refine Qa ?_
  refine Qa ?_
  refine LQ_nil ?_
  rintro h4 rfl
  refine Xt ?_
  refine Wu _ (tk8 6 5 4 9 7 0 1 8) ?_
  refine Wt (Xr (Yr (Xr (Yr (Xr ?_)))))
  refine Xv3 ?_
  exact ⟨(Only.trans uOn uyx (fun b_ hb_ => .inl (by simp only [List.mem_cons, List.not_mem_nil, or_false] at hb_ ⊢; omega))), .inl ⟨hne, by rw [hpf.1, hpf.2.2, if_neg e4], by rw [hpf.2.1, hpf.2.2]; exact uRx⟩⟩
 refine W_exit ?_
 refine Xe (Xe ?_)
 refine X_block_hit ?_
 refine Xt ?_
 have hjk : j = (nblk z).toNat := by rw [hlb] at c; omega
 have hok := (pE_ok (k := (nblk z).toNat) (by rw [← hjk]; exact hms)).1
 have hzn : ((z.toNat : Nat) : Int) = z := by omega
 refine Wq (Wq (Wg ?_))
 refine Mv ?_
 refine Av ?_
 refine Ln (Xt (Wb ?_))
 refine W_loop (S := Nat) (fun i => [(7, .int .i64 ((p : Int))), (0, .pointer (some ⟨r, 0, none⟩)), (1, .int .i64 (z)), (8, vb), (11, .int .i64 ((z + (i : Int))))]) (fun i h' => z.toNat + i ≤ 512 * j ∧ (∀ k, k < i → byt (((D.drop p).take (512 * j)).drop z.toNat) k = 0) ∧ Ext h1 h') (fun i => 512 * j - i) 0 (sk4 7 0 1 8 rfl rfl rfl rfl (sk1 11 (lki rfl (by omega)) sN)) ?_ ?_
 ·exact ⟨by omega, fun k hk => absurd hk (Nat.not_lt_zero _), Ext.refl _⟩
 rintro i h5 ⟨hi, hiz, hxl⟩
 show W _ _ _ _ _ [(7, .int .i64 ((p : Int))), (0, .pointer (some ⟨r, 0, none⟩)), (1, .int .i64 (z)), (8, vb), (11, .int .i64 ((z + (i : Int))))] _
 refine Wq (Wq (Wg ?_))
 refine M2 ?_
 refine Ly (Y_len Tryz.underlying22 rfl (uo.bytes.ext hxl)) ?_
 refine Ly Yls ?_
 refine Nx ?_
 refine Sd (fun ci => ?_) fun ci => ?_
 ·refine Ws ?_
  have hil : z.toNat + i < 512 * j := by rw [hlb] at ci; omega
  have hbe : byt (((D.drop p).take (512 * j)).drop z.toNat) i = byt ((D.drop p).take (512 * j)) (z + (i : Int)).toNat := by rw [byt_dropz, show z.toNat + i = (z + (i : Int)).toNat by omega]
  have hdl : ((((D.drop p).take (512 * j)).drop z.toNat).length) = 512 * j - z.toNat := by rw [List.length_drop, hlb]
  refine Wq (Wb (Wq (Wg ?_)))
  refine M2 ?_
  refine Ly (Y_idx Tryz.underlying22 (show _ = some 1 by kernel_rfl) rfl rfl (uo.bytes.ext hxl) (by omega) (by omega)) ?_
  refine Ly (Y_ldbyte Tryz.underlying5 rfl rfl (uo.bytes.ext hxl) (by omega) (by omega)) ?_
  refine Ly Yne ?_
  refine Nx ?_
  refine Wu _ (tk6 58 7 0 1 8 11) ?_
  refine Sd (fun hne => ?_) fun hne => ?_
  ·refine Wm ?_
   refine Mv ?_
   refine Lad ?_
   refine A2 ?_
   refine Av ?_
   refine Ln (Xt (Wt (Yr (Xr (Xr (Yr (Xr ?_)))))))
   refine Xv3 ?_
   have hfz := nzx_found (m := i) hiz (by rw [hdl]; omega) (by rw [hbe]; exact hne)
   exact ⟨(Only.trans uOn hxl (fun _ hb_ => by cases hb_)), .inr (.inl ⟨hok, by rw [← hjk]; exact (uRj.ext hxl), by rw [← hjk, hfz]; omega, by rw [← hjk, hfz, Int.add_assoc]⟩)⟩
  refine Wk (Xb (Xt (Wg ?_)))
  refine Mv ?_
  refine Lad ?_
  refine Av ?_
  refine Ln ?_
  refine X_loop (i + 1) (sk4 7 0 1 8 rfl rfl rfl rfl (sk1 11 (lki rfl (by omega)) sN)) ?_ ?_
  ·exact ⟨by omega, step_ne hiz (by rw [hbe]; exact Classical.not_not.1 hne), hxl⟩
  (try dsimp only)
  omega
 refine W_exit ?_
 refine Xe (Xe ?_)
 refine X_block_hit ?_
 refine Xt ?_
 refine Wu _ (tk3 0 1 8) ?_
 have hdl : ((((D.drop p).take (512 * j)).drop z.toNat).length) = 512 * j - z.toNat := by rw [List.length_drop, hlb]
 have hfz := nzx_none (l := ((D.drop p).take (512 * j)).drop z.toNat) (fun k hk => hiz k (by rw [hlb] at ci; omega))
 refine Wq ?_
 refine W_quiet (fun h' => h' = h5) (by kernel_rfl) (by kernel_rfl) rfl ?_
 refine Qm ?_
 refine Qm ?_
 have hb3 : Bytes h5 (slcut 1 0 (z).toNat vb) (((D.drop p).take (512 * j)).take (z).toNat) := Bytes.cuth (uo.bytes.ext hxl) (by omega) 
 refine Qy (Y_cut_h Tryz.underlying22 (show _ = some 1 by kernel_rfl) rfl (uo.bytes.ext hxl) rfl (by omega) (by omega)) ?_
 refine Qm ?_
 refine Qy (Y_nilCheck rfl) ?_
 refine Qy (Y_fieldAddr (off := 1) (by kernel_rfl) rfl rfl) ?_
 refine Qy (Y_ldblk Tryz.underlying2 rfl rfl (ubk.ext hxl) rfl) ?_
 refine Qa ?_
 refine Qa ?_
 refine Qa ?_
 refine LQ_nil ?_
 rintro h5 rfl
 refine Xt ?_
 refine Wu _ (tk3 6 5 4) ?_
 refine Wt ?_
 refine Xv3 ?_
 exact ⟨(Only.trans uOn hxl (fun _ hb_ => by cases hb_)), .inr (.inr ⟨hok, by rw [← hjk]; exact (uRj.ext hxl), by rw [← hjk, hfz]; decide, _, by rw [← hjk], by rw [← hjk]; exact hb3⟩)⟩
section
variable {lo hi : Nat} {h : Heap} {r s : Nat} {D : List UInt8} {f : Int} {p : Nat} {er z : Int}
theorem pab_N (R : RdB lo hi h r s D f p 0) (hl : D.length ≤ 100000000000) (hf : -9223372036854775808 ≤ f ∧ f ≤ 9223372036854775807) (hz : 1 ≤ z ∧ z ≤ 262144) (e : ¬ pE D f p (nblk z).toNat = 0) :
    Cal Tryz.prog 70 #[.pointer (some ⟨r, 0, none⟩), .int .i64 z] h (fun v h' => v = .tuple #[.slice none 0 0, .int .i64 (pP D f p (nblk z).toNat : Int), .int .i64 (pE D f p (nblk z).toNat)] ∧ Only [r, s] h h' ∧ RdB lo hi h' r s D f (pP D f p (nblk z).toNat) (pR D f p (nblk z).toNat)) :=
  (ref11_Read h lo hi r s D f p R R.blk z hl hf hz).mono fun v h' ⟨o, q⟩ => by
    rcases q with ⟨q1, q2, q3⟩ | ⟨q1, _⟩ | ⟨q1, _⟩
    · exact ⟨q2, o, q3⟩
    · exact absurd q1 e
    · exact absurd q1 e
theorem pab_Z (R : RdB lo hi h r s D f p 0) (hl : D.length ≤ 100000000000) (hf : -9223372036854775808 ≤ f ∧ f ≤ 9223372036854775807) (hz : 1 ≤ z ∧ z ≤ 262144) (e : pE D f p (nblk z).toNat = 0) (n : 0 ≤ nzx (((D.drop p).take (512 * (nblk z).toNat)).drop z.toNat)) :
    Cal Tryz.prog 70 #[.pointer (some ⟨r, 0, none⟩), .int .i64 z] h (fun v h' => v = .tuple #[.slice none 0 0, .int .i64 ((p : Int) + z + nzx (((D.drop p).take (512 * (nblk z).toNat)).drop z.toNat)), .int .i64 10] ∧ Only [r, s] h h' ∧ RdB lo hi h' r s D f (p + 512 * (nblk z).toNat) 0) :=
  (ref11_Read h lo hi r s D f p R R.blk z hl hf hz).mono fun v h' ⟨o, q⟩ => by
    rcases q with ⟨q1, q2, q3⟩ | ⟨q1, q2, q3, q4⟩ | ⟨q1, q2, q3, _⟩
    · exact absurd e q1
    · exact ⟨q4, o, q2⟩
    · exact absurd n q3
theorem pab_Y (R : RdB lo hi h r s D f p 0) (hl : D.length ≤ 100000000000) (hf : -9223372036854775808 ≤ f ∧ f ≤ 9223372036854775807) (hz : 1 ≤ z ∧ z ≤ 262144) (e : pE D f p (nblk z).toNat = 0) (n : ¬ 0 ≤ nzx (((D.drop p).take (512 * (nblk z).toNat)).drop z.toNat)) :
    Cal Tryz.prog 70 #[.pointer (some ⟨r, 0, none⟩), .int .i64 z] h (fun v h' => ∃ bv, v = .tuple #[bv, .int .i64 ((p + 512 * (nblk z).toNat : Nat) : Int), .int .i64 0] ∧ Bytes h' bv (((D.drop p).take (512 * (nblk z).toNat)).take z.toNat) ∧ Only [r, s] h h' ∧ RdB lo hi h' r s D f (p + 512 * (nblk z).toNat) 0) :=
  (ref11_Read h lo hi r s D f p R R.blk z hl hf hz).mono fun v h' ⟨o, q⟩ => by
    rcases q with ⟨q1, q2, q3⟩ | ⟨q1, q2, q3, q4⟩ | ⟨q1, q2, q3, bv, q4, q5⟩
    · exact absurd e q1
    · exact absurd q3 n
    · exact ⟨bv, q4, q5, o, q2⟩
end
end Go.Xp
