/- Layers 6 and 11 (block, payload): the reader behind one pointer; reading contents. -/
import Derived.Test.YtdmhigknppkniaaGreatDoorRdr
import Derived.Test.YtdmhigknppkniaaGreatDoorEncP
set_option linter.unusedSimpArgs false
set_option linter.unusedVariables false
set_option linter.unusedSectionVars false
set_option maxRecDepth 100000
namespace Go.Xp
open Go.Proofs

/-- A reader at r over the source at s: at position p, with the error er; all of it in the blocks from lo on, ahead of hi. -/
structure RdA (lo hi : Nat) (h : Heap) (r s : Nat) (D : List UInt8) (f : Int) (p : Nat) (er : Int) : Prop where
  blk : Blk h r [.int .i64 (p : Int), .int .i64 er, .pointer (some ⟨s, 0, none⟩)]
  src : SrcA lo hi h s r D f p
  rg : lo ≤ r ∧ r < hi
section
variable {lo hi : Nat} {h h' : Heap} {r s : Nat} {D : List UInt8} {f : Int} {p : Nat} {er : Int} {bs : List Nat}
theorem RdA.out (R : RdA lo hi h r s D f p er) (y : Only bs h h') (hb : ∀ b ∈ bs, b < lo ∨ hi ≤ b) : RdA lo hi h' r s D f p er :=
  ⟨R.blk.only y (fun q => by have := hb _ q; have := R.rg; omega), R.src.out y (fun b q => .inl (hb b q)), R.rg⟩
theorem RdA.ext (R : RdA lo hi h r s D f p er) (y : Ext h h') : RdA lo hi h' r s D f p er := R.out y (fun b q => absurd q List.not_mem_nil)
theorem RdA.hle (R : RdA lo hi h r s D f p er) : hi ≤ h.size := R.src.rg.2.2
theorem RdA.lt2 (R : RdA lo hi h r s D f p er) : ∀ c ∈ [r, s], c < h.size := fun c hc => by
  have h1 := R.rg; have h2 := R.src.rg
  simp only [List.mem_cons, List.not_mem_nil, or_false] at hc
  rcases hc with rfl | rfl <;> omega
theorem rd_Next (R : RdA lo hi h r s D f p er) (hl : D.length ≤ 100000000000) (hf : -9223372036854775808 ≤ f ∧ f ≤ 9223372036854775807) :
    Cal Tryz.prog 20 #[.pointer (some ⟨r, 0, none⟩)] h (fun v h' => ∃ bv, v = .tuple #[bv, .int .i64 (nE D f p er)] ∧ (nE D f p er = 0 → OwnB h' h.size bv (nB D p)) ∧ (¬ nE D f p er = 0 → bv = .slice none 0 0) ∧ Only [r, s] h h' ∧ RdA lo hi h' r s D f (nP D f p er) (nE D f p er)) :=
  (reader_Next h lo hi r s D f p er R.src R.blk hl hf).mono fun v h' ⟨bv, q1, q2, q3, q4, q5, q6⟩ => ⟨bv, q1, q2, q3, q4, q5, q6, R.rg⟩
theorem rd_NextY (R : RdA lo hi h r s D f p er) (e : nE D f p er = 0) (hl : D.length ≤ 100000000000) (hf : -9223372036854775808 ≤ f ∧ f ≤ 9223372036854775807) :
    Cal Tryz.prog 20 #[.pointer (some ⟨r, 0, none⟩)] h (fun v h' => ∃ bv, v = .tuple #[bv, .int .i64 0] ∧ Bytes h' bv (nB D p) ∧ Only [r, s] h h' ∧ RdA lo hi h' r s D f (p + 512) 0) :=
  (rd_Next R hl hf).mono fun v h' ⟨bv, q1, q2, q3, q4, q5⟩ => ⟨bv, by rw [q1, e], (q2 e).bytes, q4, by have := (nE_pos e).2.2; rw [e, this] at q5; exact q5⟩
theorem rd_NextO (R : RdA lo hi h r s D f p er) (e : nE D f p er = 0) (hl : D.length ≤ 100000000000) (hf : -9223372036854775808 ≤ f ∧ f ≤ 9223372036854775807) :
    Cal Tryz.prog 20 #[.pointer (some ⟨r, 0, none⟩)] h (fun v h' => ∃ bv, v = .tuple #[bv, .int .i64 0] ∧ OwnB h' h.size bv (nB D p) ∧ Only [r, s] h h' ∧ RdA lo hi h' r s D f (p + 512) 0) :=
  (rd_Next R hl hf).mono fun v h' ⟨bv, q1, q2, q3, q4, q5⟩ => ⟨bv, by rw [q1, e], q2 e, q4, by have := (nE_pos e).2.2; rw [e, this] at q5; exact q5⟩
theorem rd_NextN (R : RdA lo hi h r s D f p er) (e : ¬ nE D f p er = 0) (hl : D.length ≤ 100000000000) (hf : -9223372036854775808 ≤ f ∧ f ≤ 9223372036854775807) :
    Cal Tryz.prog 20 #[.pointer (some ⟨r, 0, none⟩)] h (fun v h' => v = .tuple #[.slice none 0 0, .int .i64 (nE D f p er)] ∧ Only [r, s] h h' ∧ RdA lo hi h' r s D f (nP D f p er) (nE D f p er)) :=
  (rd_Next R hl hf).mono fun v h' ⟨bv, q1, q2, q3, q4, q5⟩ => ⟨by rw [q1, q3 e], q4, q5⟩
end
theorem reader_Offset (h : Heap) (r : Nat) (p er : Int) (s : Nat) (hb : Blk h r [.int .i64 p, .int .i64 er, .pointer (some ⟨s, 0, none⟩)]) : Cal Tryz.prog 13 #[.pointer (some ⟨r, 0, none⟩)] h (fun v h' => v = .int .i64 p ∧ Ext h h') := by
 refine Ce Tryz.func13 fun σ => ?_
 refine Wa ?_
 refine Ln (Xt (Wq (Wq (Wg ?_))))
 refine Mv ?_
 refine Ly (Y_pnil (ad := some ⟨r, 0, none⟩) (show _ = some (TypeDesc.pointer (Tryz.prog.pointee 27)) by kernel_rfl) rfl rfl) ?_
 refine Nx ?_
 refine W_false rfl ?_
 refine Wk (Xt (Wq (Wg ?_)))
 refine Mv ?_
 refine Ly (Y_nilCheck rfl) ?_
 refine Lf 0 ?_
 refine Lf 0 ?_
 refine Lb Tryz.underlying2 hb ?_
 refine An ?_
 refine Wu _ (tk1 2) ?_
 refine Wt ?_
 refine Xv1 ?_
 exact ⟨rfl, (Ext.refl _)⟩
theorem rd_Off {lo hi : Nat} {h : Heap} {r s : Nat} {D : List UInt8} {f : Int} {p : Nat} {er : Int} (R : RdA lo hi h r s D f p er) :
    Cal Tryz.prog 13 #[.pointer (some ⟨r, 0, none⟩)] h (fun v h' => v = .int .i64 (p : Int) ∧ Ext h h') := reader_Offset h r _ _ s R.blk
theorem payload_nz (h : Heap) (c : Int) : Cal Tryz.prog 98 #[.int .u8 (c)] h (fun v h' => v = .bool (decide (¬ c = 0)) ∧ h' = h) := by
 refine Ce Tryz.func98 fun σ => ?_
 refine Wa ?_
 refine Ln (Xt (Wq (Wg ?_)))
 refine Mv ?_
 refine Ly Yne ?_
 refine Av ?_
 refine Ln (Xt (Wt ?_))
 refine Xv1 ?_
 exact ⟨rfl, rfl⟩
theorem slices_IndexPz (h : Heap) (v : Value) (l : List UInt8) (hb : Bytes h v l) (hn : l.length ≤ 140737488355328) : Cal Tryz.prog 93 #[v, .func (.func 98) #[] #[]] h (fun v h' => v = .int .i64 (nzx l) ∧ h' = h) := by
 refine Ce Tryz.func93 fun σ => ?_
 refine Wa ?_
 refine Ln (Xt (Wq (Wq (Wg ?_))))
 refine Mv ?_
 refine Ly (Y_len Tryz.underlying22 rfl hb) ?_
 refine Mv ?_
 refine Ln (Xt (Wb ?_))
 refine W_loop (S := Nat) (fun i => [(7, .int .i64 ((l.length : Int))), (0, v), (1, .func (.func 98) #[] #[]), (8, .int .i64 ((i : Int)))]) (fun i h' => i ≤ l.length ∧ (∀ k, k < i → byt l k = 0) ∧ h' = h) (fun i => l.length - i) 0 (tk4 7 0 1 8) ?_ ?_
 ·exact ⟨Nat.zero_le _, (fun _ hk => absurd hk (Nat.not_lt_zero _)), rfl⟩
 rintro i h ⟨hi, hip, rfl⟩
 show W _ _ _ _ _ [(7, .int .i64 ((l.length : Int))), (0, v), (1, .func (.func 98) #[] #[]), (8, .int .i64 ((i : Int)))] _
 refine Wr ?_
 refine Ly Yls ?_
 refine Ln (Xt (Wq ?_))
 refine Sd (fun hl2 => ?_) fun hl2 => ?_
 ·refine Wk (Xt (Wq (Wb (Wq (Wg ?_)))))
  refine Mv ?_
  refine Av ?_
  refine Ln (Xt (Wq (Wg ?_)))
  refine M2 ?_
  refine Mv ?_
  refine Ly (Y_idx Tryz.underlying22 (show _ = some 1 by kernel_rfl) rfl rfl hb (by omega) (by omega)) ?_
  refine Ly (Y_ldbyte Tryz.underlying5 rfl rfl hb (by omega) (by omega)) ?_
  refine L_call (E_callv (fs := []) (cs := []) (by kernel_rfl) rfl rfl) (payload_nz _ (byt l ((i : Int)).toNat)) rfl rfl rfl ?_
  rintro _ h ⟨rfl, rfl⟩
  refine Nx ?_
  refine Wu _ (tk6 16 5 7 0 1 8) ?_
  refine Sd (fun hne => ?_) fun hne => ?_
  ·refine Wm ?_
   refine Av ?_
   refine Ln (Xt (Wt (Yr (Xr (Xr (Yr (Xr ?_)))))))
   refine Xv1 ?_
   rw [Int.toNat_natCast] at hne
   exact ⟨by rw [nzx_found (m := i) hip (by omega) hne], rfl⟩
  refine Wk (Xb (Xt (Wg ?_)))
  refine Lad ?_
  refine Mv ?_
  refine Ln ?_
  refine X_loop (i + 1) (tk4 7 0 1 8) ?_ ?_
  ·exact ⟨by omega, (step_ne hip (by have h9 := Classical.not_not.1 hne; rw [Int.toNat_natCast] at h9; exact h9)), rfl⟩
  (try dsimp only)
  omega
 refine W_exit ?_
 refine Xe (Xe ?_)
 refine X_block_hit ?_
 refine Xt (Wq (Wg ?_))
 refine Av ?_
 refine Ln (Xt (Wt ?_))
 refine Xv1 ?_
 have hi9 : i = l.length := by omega
 exact ⟨by rw [nzx_none (fun k hk => hip k (by omega))], rfl⟩
theorem nzx_lt : ∀ l : List UInt8, nzx l < (l.length : Int)
  | [] => by decide
  | a :: l => by
    have := nzx_lt l
    unfold nzx
    rw [List.length_cons]
    split
    · omega
    · split <;> omega
theorem take_blk {D : List UInt8} {p j : Nat} : (D.drop p).take (512 * j) ++ nB D (p + 512 * j) = (D.drop p).take (512 * (j + 1)) := by
  unfold nB; rw [take_more, Nat.mul_add, Nat.mul_one]
theorem nblk_rng {z : Int} (hz : 1 ≤ z ∧ z ≤ 262144) : 1 ≤ nblk z ∧ nblk z ≤ 512 ∧ z ≤ 512 * nblk z := by
  unfold nblk; split <;> omega
theorem payload_Read (h : Heap) (lo hi r s : Nat) (D : List UInt8) (f : Int) (p : Nat) (uR : RdA lo hi h r s D f p 0) (z : Int) (hl : D.length ≤ 100000000000) (hf : -9223372036854775808 ≤ f ∧ f ≤ 9223372036854775807) (hz : 1 ≤ z ∧ z ≤ 262144) : Cal Tryz.prog 56 #[.pointer (some ⟨r, 0, none⟩), .int .i64 (z)] h (fun v h' => Only [r, s] h h' ∧ ((¬ pE D f p (nblk z).toNat = 0 ∧ v = .tuple #[.slice none 0 0, .int .i64 (pP D f p (nblk z).toNat : Int), .int .i64 (pE D f p (nblk z).toNat)] ∧ RdA lo hi h' r s D f (pP D f p (nblk z).toNat) (pR D f p (nblk z).toNat)) ∨ (pE D f p (nblk z).toNat = 0 ∧ RdA lo hi h' r s D f (p + 512 * (nblk z).toNat) 0 ∧ 0 ≤ nzx (((D.drop p).take (512 * (nblk z).toNat)).drop z.toNat) ∧ v = .tuple #[.slice none 0 0, .int .i64 ((p : Int) + z + nzx (((D.drop p).take (512 * (nblk z).toNat)).drop z.toNat)), .int .i64 10]) ∨ (pE D f p (nblk z).toNat = 0 ∧ RdA lo hi h' r s D f (p + 512 * (nblk z).toNat) 0 ∧ ¬ 0 ≤ nzx (((D.drop p).take (512 * (nblk z).toNat)).drop z.toNat) ∧ ∃ bv, v = .tuple #[bv, .int .i64 ((p + 512 * (nblk z).toNat : Nat) : Int), .int .i64 0] ∧ Bytes h' bv (((D.drop p).take (512 * (nblk z).toNat)).take z.toNat)))) := by
 have hp := uR.src.le
 have hk := nblk_rng hz
 have hsl := stp_le (D := D) (f := f) (p := p)
 refine Ce Tryz.func56 fun σ => ?_
 refine Wa ?_
 refine A2 ?_
 refine Ln (Xt (Wq (Wb (Wq (Wg ?_)))))
 refine Mv ?_
 refine Ly (Y_pnil (ad := some ⟨r, 0, none⟩) (show _ = some (TypeDesc.pointer (Tryz.prog.pointee 27)) by kernel_rfl) rfl rfl) ?_
 refine An ?_
 refine W_false rfl ?_
 refine Wm ?_
 refine Ly Yls ?_
 refine Mv ?_
 refine L_known (d := 19) false rfl (by exact decide_eq_false (by omega)) ?_
 refine Mv ?_
 refine Ly (Y_gtr rfl rfl) ?_
 refine Ly Ypf ?_
 refine An ?_
 refine Wu _ (tk6 16 6 5 4 0 1) ?_
 refine W_known false rfl (by exact decide_eq_false (by omega)) ?_
 refine Wk (Xb (Xt (Wq (Wg ?_))))
 refine Mv ?_
 refine Lc (rd_Off uR) ?_
 rintro _ h1 ⟨rfl, ux1⟩
 refine Av ?_
 refine Ln (Xt (Wq (Wg ?_)))
 refine Av ?_
 refine Ln (Xt (Wq (Wq (Wg ?_))))
 refine Mv ?_
 refine Lc (payload_Blocks _ z (by first | omega | rfl | (simp <;> omega))) ?_
 rintro _ h1 ⟨rfl, rfl⟩
 refine Av ?_
 refine Ln (Xt (Wb ?_))
 refine W_loop (S := Nat × Value) (fun (j, vb) => [(7, .int .i64 ((p : Int))), (0, .pointer (some ⟨r, 0, none⟩)), (1, .int .i64 (z)), (8, vb), (9, .int .i64 (nblk z - (j : Int)))]) (fun (j, vb) h' => j ≤ (nblk z).toNat ∧ p + 512 * j ≤ stp D f p ∧ Only [r, s] h h' ∧ OwnB h' h.size vb ((D.drop p).take (512 * j)) ∧ RdA lo hi h' r s D f (p + 512 * j) 0) (fun (j, vb) => (nblk z).toNat - j) (0, .slice none 0 0) (sk4 7 0 1 8 rfl rfl rfl rfl (sk1 9 (lki rfl (by omega)) sN)) ?_ ?_
 ·exact ⟨Nat.zero_le _, stp_ge hp, (Only.trans (Only.refl _ _) ux1 (fun _ hb_ => by cases hb_)), OwnB.nil _ _, (uR.ext ux1)⟩
 rintro ⟨j, vb⟩ h2 ⟨hj, hms, uOn, uo, uRj⟩
 show W _ _ _ _ _ [(7, .int .i64 ((p : Int))), (0, .pointer (some ⟨r, 0, none⟩)), (1, .int .i64 (z)), (8, vb), (9, .int .i64 (nblk z - (j : Int)))] _
 refine Wq (Wq (Wg ?_))
 refine Mv ?_
 refine Ly (Y_gtr rfl rfl) ?_
 refine Nx ?_
 refine Sd (fun c => ?_) fun c => ?_
 ·refine Wk (Xt (Wq ?_))
  by_cases eN : nE D f (p + 512 * j) 0 = 0
  ·refine Wb (Wq (Wg ?_))
   refine Mv ?_
   refine Lc (rd_NextY uRj eN hl hf) ?_
   rintro _ h3 ⟨uvx, rfl, uLx, uyx, uRx⟩
   refine Mx ?_
   refine A2 ?_
   refine Nx ?_
   refine Wu _ (tk7 11 10 7 0 1 8 9) ?_
   refine Wm ?_
   refine Ln (Xt (Wb (Wq (Wg ?_))))
   refine Ly Yeq ?_
   refine An ?_
   refine W_known true rfl (by first | rfl | decide | simp) ?_
   have hlnB : (nB D (p + 512 * j)).length ≤ 512 := by unfold nB; rw [List.length_take]; omega
   refine Wg ?_
   refine M2 ?_
   refine L_mks (M_appb Tryz.underlying22 (by unfold elemRow; kernel_rfl) rfl rfl (show OwnB _ _ _ _ from Own.only uo uyx (fun b_ hb_ hM_ => Nat.lt_irrefl _ (ntl (uR.lt2 _ hM_) (nt (Nat.le_refl _) (Own.lt uo b_ hb_).1)))) uLx (nt uOn.size uyx.size) (by first | omega | (simp; omega))) rfl rfl rfl ?_
   rintro v1 h4 ha2
   refine Av ?_
   refine Ln (Xb (Xb (Xt ?_)))
   refine Wu _ (tk5 8 7 0 1 9) ?_
   have uRy := RdA.out uRx ha2.only (fun b hb => .inr (nt uR.hle (ha2.ge b hb)))
   have hen := (nE_pos eN).2.1
   have hmv := stp_mv (D := D) (f := f) (p := p) (q := p + 512 * j) (by omega) hms
   refine Wg ?_
   refine Mv ?_
   refine Ly (Y_sub rfl rfl (by omega) (by omega)) ?_
   refine Av ?_
   refine Ln ?_
   refine X_loop ((j + 1, v1)) (sk4 7 0 1 8 rfl rfl rfl rfl (sk1 9 (lki rfl (by omega)) sN)) ?_ ?_
   ·exact ⟨by omega, by rw [hmv] at hen; omega, (Only.trans (Only.trans uOn uyx (fun b_ hb_ => .inl (by simp only [List.mem_cons, List.not_mem_nil, or_false] at hb_ ⊢; omega))) ha2.only (fun b_ hb_ => .inr (nt (Nat.le_refl _) (ha2.ge b_ hb_)))), OwnB.congr ha2.own take_blk, by rw [Nat.mul_add, Nat.mul_one, ← Nat.add_assoc]; exact uRy⟩
   (try dsimp only)
   omega
  refine Wb (Wq (Wg ?_))
  refine Mv ?_
  refine Lc (rd_NextN uRj eN hl hf) ?_
  rintro _ h5 ⟨rfl, uyx, uRx⟩
  refine Mx ?_
  refine A2 ?_
  refine Nx ?_
  refine Wu _ (tk7 11 10 7 0 1 8 9) ?_
  have hpf := pE_fail (k := (nblk z).toNat) hp hms (by omega) eN
  have hne : ¬ pE D f p (nblk z).toNat = 0 := by rw [hpf.1]; split; decide; exact eN
  refine Wm ?_
  refine Ln (Xt (Wb (Wq (Wg ?_))))
  refine Ly Yeq ?_
  refine An ?_
  refine W_known false rfl (by exact decide_eq_false (by exact eN)) ?_
  refine Wr ?_
  refine Ly Yeq ?_
  refine An ?_
  refine Sd (fun e4 => ?_) fun e4 => ?_
  ·refine Wm ?_
   refine Lc (rd_Off uRx) ?_
   rintro _ h6 ⟨rfl, ux2⟩
   refine A2 ?_
   refine An ?_
   refine Wu _ (tk8 6 5 4 7 0 1 8 9) ?_
   refine Wt (Yr (Yr (Xr (Xr (Yr (Xr ?_))))))
   refine Xv3 ?_
   exact ⟨(Only.trans (Only.trans uOn uyx (fun b_ hb_ => .inl (by simp only [List.mem_cons, List.not_mem_nil, or_false] at hb_ ⊢; omega))) ux2 (fun _ hb_ => by cases hb_)), .inl ⟨hne, by rw [hpf.1, hpf.2.2, if_pos e4], by rw [hpf.2.1, hpf.2.2]; exact (uRx.ext ux2)⟩⟩
  refine Wm ?_
  refine Lc (rd_Off uRx) ?_
  rintro _ h7 ⟨rfl, ux2⟩
  refine Mv ?_
  refine A2 ?_
  refine An ?_
  refine Wu _ (tk8 6 5 4 7 0 1 8 9) ?_
  refine Wt (Yr (Yr (Xr (Xr (Yr (Xr ?_))))))
  refine Xv3 ?_
  exact ⟨(Only.trans (Only.trans uOn uyx (fun b_ hb_ => .inl (by simp only [List.mem_cons, List.not_mem_nil, or_false] at hb_ ⊢; omega))) ux2 (fun _ hb_ => by cases hb_)), .inl ⟨hne, by rw [hpf.1, hpf.2.2, if_neg e4], by rw [hpf.2.1, hpf.2.2]; exact (uRx.ext ux2)⟩⟩
 refine W_exit ?_
 refine Xe (Xe ?_)
 refine X_block_hit ?_
 refine Xt ?_
 have hjk : j = (nblk z).toNat := by omega
 have hok := (pE_ok (k := (nblk z).toNat) (by rw [← hjk]; exact hms)).1
 have hlb : ((D.drop p).take (512 * j)).length = 512 * j := by rw [List.length_take, List.length_drop]; omega
 refine Wq (Wq (Wg ?_))
 refine M2 ?_
 have hb3 : Bytes h2 (slcut 1 (z).toNat ((D.drop p).take (512 * j)).length vb) (((D.drop p).take (512 * j)).drop (z).toNat) := Bytes.cutl uo.bytes (by omega) 
 refine Ly (Y_cut_l Tryz.underlying22 (show _ = some 1 by kernel_rfl) rfl uo.bytes rfl (by omega) (by omega)) ?_
 refine Lc (slices_IndexPz _ (slcut 1 (z).toNat ((D.drop p).take (512 * j)).length vb) (((D.drop p).take (512 * j)).drop (z).toNat) hb3 (by first | omega | rfl | (simp <;> omega))) ?_
 rintro _ h2 ⟨rfl, rfl⟩
 refine An ?_
 refine Wu _ (tk5 12 7 0 1 8) ?_
 have hzl : nzx (((D.drop p).take (512 * j)).drop z.toNat) < 300000 := Int.lt_of_lt_of_le (nzx_lt _) (by rw [List.length_drop, hlb]; omega)
 refine Wm ?_
 refine Ly (Y_geq rfl rfl) ?_
 refine Nx ?_
 refine Sd (fun z0 => ?_) fun z0 => ?_
 ·refine Wm ?_
  refine Mv ?_
  refine Lad ?_
  refine Mv ?_
  refine Lad ?_
  refine A2 ?_
  refine An ?_
  refine Wu _ (tk6 6 5 4 0 1 8) ?_
  refine Wt (Xr ?_)
  refine Xv3 ?_
  exact ⟨uOn, .inr (.inl ⟨hok, by rw [← hjk]; exact uRj, by rw [← hjk]; exact z0, by rw [← hjk]⟩)⟩
 refine Wk (Xt (Wq ?_))
 refine W_pers [(0, .pointer (some ⟨r, 0, none⟩)), (1, .int .i64 (z)), (8, vb)] (tk3 0 1 8) (by kernel_rfl) ?_
 refine LPc 0 (vb) [] ?_ ?_
 ·intro h8 hx4
  exact Sm
 refine LPc 1 (.int .i64 (z)) [] ?_ ?_
 ·intro h9 hx5
  exact Sm
 refine LP_op 2 (fun hh r20_1 => Bytes hh r20_1 (((D.drop p).take (512 * j)).take (z).toNat)) [(0, 62), (1, 63)] rfl rfl (by kernel_rfl) (fun _ _ _ x_ p_ => p_.ext x_) ?_ ?_
 ·intro h10 hx6
  rintro _ rfl
  rintro _ rfl
  refine Nn ?_
  have hb7 : Bytes h10 (slcut 1 0 (z).toNat vb) (((D.drop p).take (512 * j)).take (z).toNat) := Bytes.cuth (uo.bytes.ext hx6) (by omega) 
  refine Stp_yld (Y_cut_h Tryz.underlying22 (show _ = some 1 by kernel_rfl) rfl (uo.bytes.ext hx6) rfl (by omega) (by omega)) rfl ?_
  exact hb7
 refine LPc 3 (.pointer (some ⟨r, 0, none⟩)) [] ?_ ?_
 ·intro h11 hx8
  exact Sm
 refine LPc 4 (.int .i64 (((p + 512 * j : Nat) : Int))) [(3, 65)] ?_ ?_
 ·intro h12 hx9
  rintro _ rfl
  refine Nn ?_
  refine Stp_call (E_call (by kernel_rfl) rfl) (rd_Off (uRj.ext hx9)) rfl ?_
  rintro _ h13 ⟨rfl, ux2⟩
  exact ⟨ux2, rfl⟩
 refine LP_op 5 (fun hh r20_2 => Bytes hh r20_2 (((D.drop p).take (512 * j)).take (z).toNat)) [(2, 64)] rfl rfl (by kernel_rfl) (fun _ _ _ x_ p_ => p_.ext x_) ?_ ?_
 ·intro h14 hx10
  intro r20_1 q20_1
  refine Nn ?_
  refine Stp_yld (Y_assign rfl) rfl ?_
  exact q20_1
 refine LPc 6 (.int .i64 (((p + 512 * j : Nat) : Int))) [(4, 66)] ?_ ?_
 ·intro h15 hx11
  rintro _ rfl
  exact Sy (Y_assign rfl)
 refine LPc 7 (.int .i64 0) [] ?_ ?_
 ·intro h16 hx12
  exact Sy (Y_assign rfl)
 refine LP_end [(5, 4), (6, 5), (7, 6)] rfl (by kernel_rfl) rfl ?_
 intro h17 hx13
 intro r20_2 q20_2
 rintro _ rfl
 rintro _ rfl
 refine Nn ?_
 refine Xt (Wt ?_)
 refine Xv3 ?_
 exact ⟨(Only.trans uOn hx13 (fun _ hb_ => by cases hb_)), .inr (.inr ⟨hok, by rw [← hjk]; exact (uRj.ext hx13), by rw [← hjk]; exact z0, _, by rw [← hjk], by rw [← hjk]; exact q20_2⟩)⟩
section
variable {lo hi : Nat} {h : Heap} {r s : Nat} {D : List UInt8} {f : Int} {p : Nat} {er z : Int}
theorem RdA.ge2 (R : RdA lo hi h r s D f p er) : ∀ c ∈ [r, s], lo ≤ c := fun c hc => by
  have h1 := R.rg; have h2 := R.src.rg
  simp only [List.mem_cons, List.not_mem_nil, or_false] at hc
  rcases hc with rfl | rfl <;> omega
theorem RdA.no (R : RdA lo hi h r s D f p er) {d : Nat} (hd : hi ≤ d) : d ∉ [r, s] := fun hc => by
  have h1 := R.rg; have h2 := R.src.rg
  simp only [List.mem_cons, List.not_mem_nil, or_false] at hc
  omega
theorem pay_N (R : RdA lo hi h r s D f p 0) (hl : D.length ≤ 100000000000) (hf : -9223372036854775808 ≤ f ∧ f ≤ 9223372036854775807) (hz : 1 ≤ z ∧ z ≤ 262144) (e : ¬ pE D f p (nblk z).toNat = 0) :
    Cal Tryz.prog 56 #[.pointer (some ⟨r, 0, none⟩), .int .i64 z] h (fun v h' => v = .tuple #[.slice none 0 0, .int .i64 (pP D f p (nblk z).toNat : Int), .int .i64 (pE D f p (nblk z).toNat)] ∧ Only [r, s] h h' ∧ RdA lo hi h' r s D f (pP D f p (nblk z).toNat) (pR D f p (nblk z).toNat)) :=
  (payload_Read h lo hi r s D f p R z hl hf hz).mono fun v h' ⟨o, q⟩ => by
    rcases q with ⟨q1, q2, q3⟩ | ⟨q1, _⟩ | ⟨q1, _⟩
    · exact ⟨q2, o, q3⟩
    · exact absurd q1 e
    · exact absurd q1 e
theorem pay_Z (R : RdA lo hi h r s D f p 0) (hl : D.length ≤ 100000000000) (hf : -9223372036854775808 ≤ f ∧ f ≤ 9223372036854775807) (hz : 1 ≤ z ∧ z ≤ 262144) (e : pE D f p (nblk z).toNat = 0) (n : 0 ≤ nzx (((D.drop p).take (512 * (nblk z).toNat)).drop z.toNat)) :
    Cal Tryz.prog 56 #[.pointer (some ⟨r, 0, none⟩), .int .i64 z] h (fun v h' => v = .tuple #[.slice none 0 0, .int .i64 ((p : Int) + z + nzx (((D.drop p).take (512 * (nblk z).toNat)).drop z.toNat)), .int .i64 10] ∧ Only [r, s] h h' ∧ RdA lo hi h' r s D f (p + 512 * (nblk z).toNat) 0) :=
  (payload_Read h lo hi r s D f p R z hl hf hz).mono fun v h' ⟨o, q⟩ => by
    rcases q with ⟨q1, q2, q3⟩ | ⟨q1, q2, q3, q4⟩ | ⟨q1, q2, q3, _⟩
    · exact absurd e q1
    · exact ⟨q4, o, q2⟩
    · exact absurd n q3
theorem pay_Y (R : RdA lo hi h r s D f p 0) (hl : D.length ≤ 100000000000) (hf : -9223372036854775808 ≤ f ∧ f ≤ 9223372036854775807) (hz : 1 ≤ z ∧ z ≤ 262144) (e : pE D f p (nblk z).toNat = 0) (n : ¬ 0 ≤ nzx (((D.drop p).take (512 * (nblk z).toNat)).drop z.toNat)) :
    Cal Tryz.prog 56 #[.pointer (some ⟨r, 0, none⟩), .int .i64 z] h (fun v h' => ∃ bv, v = .tuple #[bv, .int .i64 ((p + 512 * (nblk z).toNat : Nat) : Int), .int .i64 0] ∧ Bytes h' bv (((D.drop p).take (512 * (nblk z).toNat)).take z.toNat) ∧ Only [r, s] h h' ∧ RdA lo hi h' r s D f (p + 512 * (nblk z).toNat) 0) :=
  (payload_Read h lo hi r s D f p R z hl hf hz).mono fun v h' ⟨o, q⟩ => by
    rcases q with ⟨q1, q2, q3⟩ | ⟨q1, q2, q3, q4⟩ | ⟨q1, q2, q3, bv, q4, q5⟩
    · exact absurd e q1
    · exact absurd q3 n
    · exact ⟨bv, q4, q5, o, q2⟩
end
end Go.Xp
