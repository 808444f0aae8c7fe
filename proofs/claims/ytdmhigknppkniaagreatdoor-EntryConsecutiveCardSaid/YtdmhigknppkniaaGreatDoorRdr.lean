/- Layer 6 (block): a reader of blocks. -/
import Derived.Test.YtdmhigknppkniaaGreatDoorSrc
set_option linter.unusedSimpArgs false
set_option linter.unusedVariables false
set_option linter.unusedSectionVars false
set_option maxRecDepth 100000
namespace Go.Xp
open Go.Proofs

section
variable {lo hi : Nat} {h : Heap} {s r : Nat} {D : List UInt8} {f : Int} {p : Nat}
theorem src_ReadN (S : SrcA lo hi h s r D f p) (he : (p : Int) = f ∨ D.length ≤ p) (hl : D.length ≤ 100000000000) (hf : -9223372036854775808 ≤ f ∧ f ≤ 9223372036854775807) {n : Int} (hn : 1 ≤ n ∧ n ≤ 512) :
    Cal Tryz.prog 46 #[.pointer (some ⟨s, 0, none⟩), .int .i64 n] h (fun v h' => v = .tuple #[.slice none 0 0, .int .i64 (if (p : Int) = f then 11 else 4)] ∧ Ext h h') := by
  obtain ⟨⟨vr, vc, C, rd, a1, a2, a3, a4, a5, a6, a7⟩, le, rg⟩ := S
  refine (source_Read h s vr D p a2 vc C a3 f rd a1 n a5 a4 hl le hn hf (fun d hd => (a6 d hd).2.1)).mono fun v h' q => ?_
  rcases q with ⟨q1, q2, q3⟩ | ⟨m, bv, vr', rd', q1, q2, q3, _⟩
  · exact ⟨q1, q3⟩
  · exact absurd he q3
theorem src_ReadY (S : SrcA lo hi h s r D f p) (he : ¬ ((p : Int) = f ∨ D.length ≤ p)) (hl : D.length ≤ 100000000000) (hf : -9223372036854775808 ≤ f ∧ f ≤ 9223372036854775807) {n : Int} (hn : 1 ≤ n ∧ n ≤ 512) :
    Cal Tryz.prog 46 #[.pointer (some ⟨s, 0, none⟩), .int .i64 n] h (fun v h' => ∃ (m : Nat) (bv : Value), v = .tuple #[bv, .int .i64 0] ∧ (1 ≤ m ∧ (m : Int) ≤ n ∧ p + m ≤ stp D f p) ∧ OwnB h' h.size bv ((D.drop p).take m) ∧ Only [s] h h' ∧ SrcA lo hi h' s r D f (p + m)) := by
  obtain ⟨⟨vr, vc, C, rd, a1, a2, a3, a4, a5, a6, a7⟩, le, rg⟩ := S
  refine (source_Read h s vr D p a2 vc C a3 f rd a1 n a5 a4 hl le hn hf (fun d hd => (a6 d hd).2.1)).mono fun v h' q => ?_
  rcases q with ⟨q1, q2, q3⟩ | ⟨m, bv, vr', rd', q1, q2, q3, q4, q5, q6, q7, q8, q9⟩
  · exact absurd q2 he
  · have hm := stp_le (D := D) (f := f) (p := p)
    exact ⟨m, bv, q1, q2, q4, q5, ⟨vr', vc, C, rd', q6, q7, a3.onlyI q5 (fun d hd q => (a7 d hd).2.1 (List.mem_singleton.1 q)), q8, a5, fun d hd => a6 d (q9 d hd), a7⟩, by omega, rg.1, rg.2.1, nt rg.2.2 q5.size⟩
theorem take_more {m m1 : Nat} : (D.drop p).take m ++ (D.drop (p + m)).take m1 = (D.drop p).take (m + m1) := by
  rw [List.take_add, List.drop_drop]
end
theorem status_fail (h : Heap) (r : Nat) (off : Int) (er : Int) (s : Nat) (hb : Blk h r [.int .i64 off, .int .i64 er, .pointer (some ⟨s, 0, none⟩)]) (e : Int) : Cal Tryz.prog 47 #[.pointer (some ⟨r, 0, none⟩), .int .i64 (e)] h (fun v h' => v = .int .i64 (e) ∧ Only [r] h h' ∧ Blk h' r [.int .i64 (off), .int .i64 (e), .pointer (some ⟨s, 0, none⟩)]) := by
 refine Ce Tryz.func47 fun σ => ?_
 refine Wa ?_
 refine Ln (Xt (Wq (Wg ?_)))
 refine M2 ?_
 refine Ly (Y_nilCheck rfl) ?_
 refine Lf 1 ?_
 refine Lds [.int .i64 (e)] hb ?_
 rintro h1 hp1
 have hk2 : Blk h1 r [.int .i64 (off), .int .i64 (e), .pointer (some ⟨s, 0, none⟩)] := hp1.blk
 refine Ln (Xt (Wq (Wg ?_)))
 refine Mv ?_
 refine An ?_
 refine Wu _ (tk1 4) ?_
 refine Wt ?_
 refine Xv1 ?_
 exact ⟨rfl, (Only.trans (Only.refl _ _) hp1.only (fun b_ hb_ => .inl (by simp only [List.mem_cons, List.not_mem_nil, or_false] at hb_ ⊢; omega))), hk2⟩
theorem reader_Next (h : Heap) (lo hi r s : Nat) (D : List UInt8) (f : Int) (p : Nat) (er : Int) (uS : SrcA lo hi h s r D f p) (hb : Blk h r [.int .i64 (p : Int), .int .i64 er, .pointer (some ⟨s, 0, none⟩)]) (hl : D.length ≤ 100000000000) (hf : -9223372036854775808 ≤ f ∧ f ≤ 9223372036854775807) : Cal Tryz.prog 20 #[.pointer (some ⟨r, 0, none⟩)] h (fun v h' => ∃ bv, v = .tuple #[bv, .int .i64 (nE D f p er)] ∧ (nE D f p er = 0 → OwnB h' h.size bv (nB D p)) ∧ (¬ nE D f p er = 0 → bv = .slice none 0 0) ∧ Only [r, s] h h' ∧ Blk h' r [.int .i64 (nP D f p er : Int), .int .i64 (nE D f p er), .pointer (some ⟨s, 0, none⟩)] ∧ SrcA lo hi h' s r D f (nP D f p er)) := by
 have hp := uS.le
 have hsl := stp_le (D := D) (f := f) (p := p)
 refine Ce Tryz.func20 fun σ => ?_
 refine Wa ?_
 refine Av ?_
 refine Ln (Xt (Wq (Wb (Wq (Wg ?_)))))
 refine Mv ?_
 refine Ly (Y_pnil (ad := some ⟨r, 0, none⟩) (show _ = some (TypeDesc.pointer (Tryz.prog.pointee 27)) by kernel_rfl) rfl rfl) ?_
 refine An ?_
 refine W_false rfl ?_
 refine Wm ?_
 refine Ly (Y_nilCheck rfl) ?_
 refine Lf 0 ?_
 refine Lf 1 ?_
 refine Lb Tryz.underlying38 hb ?_
 refine Ly Yne ?_
 refine An ?_
 refine Wu _ (tk4 10 3 2 0) ?_
 refine Sd (fun e0 => ?_) fun e0 => ?_
 ·refine Wq ?_
  refine W_quiet (fun h' => h' = h) (by kernel_rfl) (by kernel_rfl) rfl ?_
  refine Qm ?_
  refine Qy (Y_nilCheck rfl) ?_
  refine Qy (Y_fieldAddr (off := 0) (by kernel_rfl) rfl rfl) ?_
  refine Qy (Y_fieldAddr (off := 1) (by kernel_rfl) rfl rfl) ?_
  refine Qy (Y_ldblk Tryz.underlying38 rfl rfl hb rfl) ?_
  refine Qa ?_
  refine Qa ?_
  refine LQ_nil ?_
  rintro h rfl
  refine Xt ?_
  refine Wu _ (tk3 3 2 0) ?_
  refine Wt (Yr (Xr ?_))
  refine Xv2 ?_
  have q1 := (nE_er (D := D) (f := f) (p := p) e0).1
  have q2 := (nE_er (D := D) (f := f) (p := p) e0).2
  exact ⟨.slice none 0 0, by rw [q1], fun q => absurd q (by rw [q1]; exact e0), fun _ => rfl, (Only.refl _ _), by rw [q1, q2]; exact hb, by rw [q2]; exact uS⟩
 refine Wk (Xb (Xt ?_))
 have e00 : er = 0 := Classical.not_not.1 e0
 refine Wr ?_
 refine L_mks (M_mkcap Tryz.underlying22 (by unfold elemRow; kernel_rfl) rfl rfl (by omega)) rfl rfl rfl ?_
 rintro v3 h1 ⟨ho4, hx5⟩
 refine Av ?_
 refine Ln (Xt (Wq (Wb ?_)))
 refine W_loop (S := Nat × Value) (fun (m, vb) => [(0, .pointer (some ⟨r, 0, none⟩)), (4, vb)]) (fun (m, vb) h' => m ≤ 512 ∧ p + m ≤ stp D f p ∧ Only [r, s] h h' ∧ OwnB h' h.size vb ((D.drop p).take m) ∧ Blk h' r [.int .i64 ((p + m : Nat) : Int), .int .i64 er, .pointer (some ⟨s, 0, none⟩)] ∧ SrcA lo hi h' s r D f (p + m)) (fun (m, vb) => 512 - m) (0, v3) (tk2 0 4) ?_ ?_
 ·exact ⟨by omega, stp_ge hp, (Only.trans (Only.refl _ _) hx5 (fun _ hb_ => by cases hb_)), ho4, (hb.ext hx5), (uS.ext hx5)⟩
 rintro ⟨m, vb⟩ h2 ⟨hm, hms, uOn, uo, ubk, uSL⟩
 show W _ _ _ _ _ [(0, .pointer (some ⟨r, 0, none⟩)), (4, vb)] _
 have hln : ((D.drop p).take m).length = m := by rw [List.length_take, List.length_drop]; omega
 refine Wq (Wq (Wg ?_))
 refine Mv ?_
 refine Ly (Y_len Tryz.underlying22 rfl uo.bytes) ?_
 refine Ly Yls ?_
 refine Nx ?_
 refine Sd (fun c9 => ?_) fun c9 => ?_
 ·refine Ws ?_
  by_cases he : ((p + m : Nat) : Int) = f ∨ D.length ≤ p + m
  ·refine Wb (Wq (Wg ?_))
   refine Mv ?_
   refine Ly (Y_nilCheck rfl) ?_
   refine Lf 2 ?_
   refine Lb Tryz.underlying29 ubk ?_
   refine Mv ?_
   refine Ly (Y_len Tryz.underlying22 rfl uo.bytes) ?_
   refine Ly (Y_sub rfl rfl (by omega) (by omega)) ?_
   refine L_call (E_call (by kernel_rfl) rfl) (src_ReadN uSL he hl hf (by omega)) rfl rfl rfl ?_
   rintro _ h3 ⟨rfl, ux1⟩
   refine Mx ?_
   refine A2 ?_
   refine Nx ?_
   refine Wu _ (tk4 6 5 0 4) ?_
   have hst : stp D f p = p + m := (stp_mv (by omega) hms).symm.trans (stp_end (by omega) he)
   have hno := nE_no (D := D) (f := f) (p := p) (by omega)
   rw [hst] at hno
   refine Wq (Wb ?_)
   by_cases c11 : ((p + m : Nat) : Int) = f
   ·refine Wm ?_
    refine Ly Yeq ?_
    refine Mv ?_
    refine L_known (d := 40) false rfl (by exact decide_eq_false (by rw [if_pos c11]; decide)) ?_
    refine Sk2 ?_
    refine Skp ?_
    refine Ly Ypf ?_
    refine An ?_
    refine Wu _ (tk5 37 6 5 0 4) ?_
    refine W_false rfl ?_
    refine Wm ?_
    refine Ly Yne ?_
    refine An ?_
    refine W_known true rfl (by exact decide_eq_true (by rw [if_pos c11]; decide)) ?_
    refine Wm ?_
    refine Ly (Y_nilCheck rfl) ?_
    refine Lf 0 ?_
    refine Mv ?_
    refine Lc (status_fail _ r ((p + m : Nat) : Int) er s (ubk.ext ux1) (if ((p + m : Nat) : Int) = f then 11 else 4)) ?_
    rintro _ h4 ⟨rfl, hx6, hb7⟩
    refine A2 ?_
    refine Nx ?_
    refine Wu _ (tk5 3 2 5 0 4) ?_
    refine Wt (Yr (Xr (Yr (Xr (Yr (Xr ?_))))))
    refine Xv2 ?_
    rw [if_pos c11] at hno
    exact ⟨.slice none 0 0, by rw [e00, hno.1, if_pos c11], fun q => absurd q (by rw [e00, hno.1]; decide), fun _ => rfl, (Only.trans (Only.trans uOn ux1 (fun _ hb_ => by cases hb_)) hx6 (fun b_ hb_ => .inl (by rw [List.mem_singleton.1 hb_]; simp))), by rw [e00, hno.1, hno.2]; have q9 := hb7; rw [if_pos c11] at q9; exact q9, by rw [e00, hno.2]; exact (SrcA.out (uSL.ext ux1) hx6 (fun b hb => .inr (List.mem_singleton.1 hb)))⟩
   by_cases m0 : m = 0
   ·refine Wm ?_
    refine Ly Yeq ?_
    refine Mv ?_
    refine L_known (d := 40) true rfl (by exact decide_eq_true (by rw [if_neg c11])) ?_
    refine Mv ?_
    refine Ly (Y_len Tryz.underlying22 rfl (uo.bytes.ext ux1)) ?_
    refine Ly (Y_gtr rfl rfl) ?_
    refine Ly Ypt ?_
    refine An ?_
    refine Wu _ (tk5 37 6 5 0 4) ?_
    refine W_known false rfl (by exact decide_eq_false (by rw [hln, m0]; decide)) ?_
    refine Wm ?_
    refine Ly Yne ?_
    refine An ?_
    refine W_known true rfl (by exact decide_eq_true (by rw [if_neg c11]; decide)) ?_
    refine Wm ?_
    refine Ly (Y_nilCheck rfl) ?_
    refine Lf 0 ?_
    refine Mv ?_
    refine Lc (status_fail _ r ((p + m : Nat) : Int) er s (ubk.ext ux1) (if ((p + m : Nat) : Int) = f then 11 else 4)) ?_
    rintro _ h5 ⟨rfl, hx8, hb9⟩
    refine A2 ?_
    refine Nx ?_
    refine Wu _ (tk5 3 2 5 0 4) ?_
    refine Wt (Yr (Xr (Yr (Xr (Yr (Xr ?_))))))
    refine Xv2 ?_
    rw [if_neg c11, if_pos (by omega)] at hno
    exact ⟨.slice none 0 0, by rw [e00, hno.1, if_neg c11], fun q => absurd q (by rw [e00, hno.1]; decide), fun _ => rfl, (Only.trans (Only.trans uOn ux1 (fun _ hb_ => by cases hb_)) hx8 (fun b_ hb_ => .inl (by rw [List.mem_singleton.1 hb_]; simp))), by rw [e00, hno.1, hno.2]; have q9 := hb9; rw [if_neg c11] at q9; exact q9, by rw [e00, hno.2]; exact (SrcA.out (uSL.ext ux1) hx8 (fun b hb => .inr (List.mem_singleton.1 hb)))⟩
   refine Wm ?_
   refine Ly Yeq ?_
   refine Mv ?_
   refine L_known (d := 40) true rfl (by exact decide_eq_true (by rw [if_neg c11])) ?_
   refine Mv ?_
   refine Ly (Y_len Tryz.underlying22 rfl (uo.bytes.ext ux1)) ?_
   refine Ly (Y_gtr rfl rfl) ?_
   refine Ly Ypt ?_
   refine An ?_
   refine Wu _ (tk5 37 6 5 0 4) ?_
   refine W_known true rfl (by exact decide_eq_true (by rw [hln]; omega)) ?_
   refine Wm ?_
   refine Ly (Y_nilCheck rfl) ?_
   refine Lf 0 ?_
   refine Lc (status_fail _ r ((p + m : Nat) : Int) er s (ubk.ext ux1) (5 : Int)) ?_
   rintro _ h6 ⟨rfl, hx10, hb11⟩
   refine A2 ?_
   refine Nx ?_
   refine Wu _ (tk5 3 2 5 0 4) ?_
   refine Wt (Yr (Xr (Yr (Xr (Yr (Xr ?_))))))
   refine Xv2 ?_
   rw [if_neg c11, if_neg (by omega)] at hno
   exact ⟨.slice none 0 0, by rw [e00, hno.1], fun q => absurd q (by rw [e00, hno.1]; decide), fun _ => rfl, (Only.trans (Only.trans uOn ux1 (fun _ hb_ => by cases hb_)) hx10 (fun b_ hb_ => .inl (by rw [List.mem_singleton.1 hb_]; simp))), by rw [e00, hno.1, hno.2]; exact hb11, by rw [e00, hno.2]; exact (SrcA.out (uSL.ext ux1) hx10 (fun b hb => .inr (List.mem_singleton.1 hb)))⟩
  refine Wb (Wq (Wg ?_))
  refine Mv ?_
  refine Ly (Y_nilCheck rfl) ?_
  refine Lf 2 ?_
  refine Lb Tryz.underlying29 ubk ?_
  refine Mv ?_
  refine Ly (Y_len Tryz.underlying22 rfl uo.bytes) ?_
  refine Ly (Y_sub rfl rfl (by omega) (by omega)) ?_
  refine L_call (E_call (by kernel_rfl) rfl) (src_ReadY uSL he hl hf (by omega)) rfl rfl rfl ?_
  rintro _ h7 ⟨m1, uvx, rfl, hm1, uLx, uyx, uSx⟩
  refine Mx ?_
  refine A2 ?_
  refine Nx ?_
  refine Wu _ (tk4 6 5 0 4) ?_
  refine Wq (Wb (Wq (Wg ?_)))
  refine Mv ?_
  refine Ly Yeq ?_
  refine Mv ?_
  refine L_known (d := 40) false rfl (by first | rfl | decide | simp) ?_
  refine Sk2 ?_
  refine Skp ?_
  refine Ly Ypf ?_
  refine An ?_
  refine Wu _ (tk5 37 6 5 0 4) ?_
  refine W_false rfl ?_
  refine Wm ?_
  refine Ly Yne ?_
  refine An ?_
  refine W_known false rfl (by first | rfl | decide | simp) ?_
  refine Wk (Xb (Xt (Wq (Wg ?_))))
  refine M2 ?_
  refine L_mks (M_appb Tryz.underlying22 (by unfold elemRow; kernel_rfl) rfl rfl (uo.only1 uyx (ntl uS.lt (Nat.le_refl _))) uLx.bytes (nt uOn.size uyx.size) (by first | omega | (simp; omega))) rfl rfl rfl ?_
  rintro v12 h8 ha13
  refine An ?_
  refine Wu _ (tk3 4 5 0) ?_
  have uSy := SrcA.out uSx ha13.only (fun b hb => .inl (.inr (nt uS.rg.2.2 (ha13.ge b hb))))
  have hlx : ((D.drop (p + m)).take m1).length = m1 := by rw [List.length_take, List.length_drop]; have := stp_le (D := D) (f := f) (p := p + m); omega
  have hmv := stp_mv (D := D) (f := f) (p := p) (q := p + m) (by omega) hms
  refine Wg ?_
  refine Mv ?_
  refine Ly (Y_nilCheck rfl) ?_
  refine Lf 0 ?_
  refine Lf 0 ?_
  have hc14 := ((ubk.only uyx (fun hb_ => uS.rg.2.1.symm (List.mem_singleton.1 hb_))).only ha13.only (fun hb_ => Nat.lt_irrefl _ (ntl (ntl hb.lt (Nat.le_refl _)) (ha13.ge _ hb_))))
  refine Lb Tryz.underlying2 hc14 ?_
  refine Mv ?_
  refine Ly (Y_len Tryz.underlying22 rfl (show OwnB _ _ _ _ from Own.only uLx ha13.only (fun b_ hb_ hM_ => (Nat.lt_irrefl _ (ntl (Own.lt uo b_ (by simpa using hM_)).2 (nt (Nat.le_refl _) (Own.lt uLx b_ hb_).1))))).bytes) ?_
  refine Lad ?_
  refine Ly (Y_nilCheck rfl) ?_
  refine Lf 0 ?_
  refine Lf 0 ?_
  refine Lds [.int .i64 (((p + m : Nat) : Int) + (((D.drop (p + m)).take m1).length : Int))] hc14 ?_
  rintro h9 hp15
  have hk16 : Blk h9 r [.int .i64 (((p + m : Nat) : Int) + (((D.drop (p + m)).take m1).length : Int)), .int .i64 (er), .pointer (some ⟨s, 0, none⟩)] := hp15.blk
  refine Ln (Xb ?_)
  refine X_loop ((m + m1, v12)) (tk2 0 4) ?_ ?_
  ·exact ⟨by omega, by rw [hmv] at hm1; omega, (Only.trans (Only.trans (Only.trans uOn uyx (fun b_ hb_ => .inl (by rw [List.mem_singleton.1 hb_]; simp))) ha13.only (fun b_ hb_ => .inr (nt (Nat.le_refl _) (ha13.ge b_ hb_)))) hp15.only (fun b_ hb_ => .inl (by rw [List.mem_singleton.1 hb_]; simp))), OwnB.congr (ha13.own.only1 hp15.only (ntl hb.lt (Nat.le_refl _))) take_more, by rw [show ((p + (m + m1) : Nat) : Int) = ((p + m : Nat) : Int) + (((D.drop (p + m)).take m1).length : Int) by rw [hlx]; omega]; exact hk16, by rw [← Nat.add_assoc]; exact (SrcA.out uSy hp15.only (fun b hb => .inr (List.mem_singleton.1 hb)))⟩
  (try dsimp only)
  omega
 refine W_exit ?_
 refine Xe (Xe ?_)
 refine X_block_hit ?_
 refine Xt ?_
 obtain rfl : m = 512 := by omega
 refine Wm ?_
 refine A2 ?_
 refine Nx ?_
 refine Wu _ (tk2 3 2) ?_
 refine Wt ?_
 refine Xv2 ?_
 have hok := nE_ok (D := D) (f := f) (p := p) hms
 exact ⟨_, by rw [e00, hok.1], fun _ => uo, fun q => absurd (by rw [e00, hok.1]) q, uOn, by rw [e00, hok.1, hok.2]; have q9 := ubk; rw [e00] at q9; exact q9, by rw [e00, hok.2]; exact uSL⟩
end Go.Xp
