/- Layers 3 and 7: the program's checksum and ustar without Decode. -/
import Derived.Test.YtdmhigknppkniaaGreatDoorDec
import Derived.Test.YtdmhigknppkniaaGreatDoorNum
import Derived.Test.YtdmhigknppkniaaGreatDoorUstE
set_option linter.unusedSimpArgs false
set_option linter.unusedVariables false
set_option maxRecDepth 100000
namespace Go.Xp
open Go.Proofs

/-! ### The checksum -/
def spc (b : List UInt8) (i : Nat) : List UInt8 := b.take 148 ++ List.replicate i 32 ++ b.drop (148 + i)
theorem spc_len {b : List UInt8} (hb : b.length = 512) {i : Nat} (hi : i ≤ 8) : (spc b i).length = 512 := by
  simp [spc, hb]; omega
theorem spc_set {b : List UInt8} (hb : b.length = 512) {i : Nat} (hi : i < 8) : (spc b i).set (148 + i) 32 = spc b (i + 1) := by
  unfold spc
  have h1 : b.drop (148 + i) = b[148 + i]'(by omega) :: b.drop (148 + (i + 1)) := by rw [List.drop_eq_getElem_cons (by omega)]; rfl
  rw [h1, List.set_append_right _ _ (by simp [hb])]
  simp [hb, List.replicate_succ']
theorem spc_byt' {b : List UInt8} (hb : b.length = 512) {i k : Nat} (hi : i ≤ 8) (hk : k < 512) : byt (spc b i) k = if 148 ≤ k ∧ k < 148 + i then 32 else byt b k := by
  have hl := spc_len hb hi
  rw [byt_eq (by omega)]
  unfold spc
  by_cases h1 : k < 148
  · rw [if_neg (by omega), byt_eq (by omega)]
    simp only [List.append_assoc]
    rw [List.getElem_append_left (by simp [hb]; omega)]
    simp
  · by_cases h2 : k < 148 + i
    · rw [if_pos (by omega), List.getElem_append_left (by simp [hb]; omega), List.getElem_append_right (by simp [hb]; omega)]
      simp
    · rw [if_neg (by omega), byt_eq (by omega), List.getElem_append_right (by simp [hb]; omega)]
      simp only [List.length_append, List.length_take, List.length_replicate, hb, List.getElem_drop]
      have e : 148 + i + (k - (min 148 512 + i)) = k := by omega
      simp only [e]
theorem spc_byt {b : List UInt8} (hb : b.length = 512) {k : Nat} (hk : k < 512) : byt (spc b 8) k = if 148 ≤ k ∧ k < 156 then 32 else byt b k := spc_byt' hb (Nat.le_refl 8) hk
theorem spc_take (b : List UInt8) (hb : b.length = 512) (i : Nat) : (spc b i).take 148 = b.take 148 := by
  unfold spc; rw [List.append_assoc, List.take_append_of_le_length (by simp [hb]), List.take_take, Nat.min_self]
theorem spc_drop (b : List UInt8) (hb : b.length = 512) (i : Nat) : (spc b (i + 1)).drop (148 + i) = [32] ++ b.drop (148 + (i + 1)) := by
  unfold spc
  rw [List.replicate_succ', List.drop_append, List.drop_append, List.drop_append]
  simp [hb]
theorem spc_seal {b : List UInt8} (hb : b.length = 512) {F : List UInt8} (hF : F.length = 7) : (spc b 8).take 148 ++ F.take (155 - 148) ++ (spc b 8).drop (148 + Nat.min F.length (155 - 148)) = b.take 148 ++ F ++ [32] ++ b.drop 156 := by
  have h2 : (spc b 8).drop 155 = [32] ++ b.drop 156 := spc_drop b hb 7
  rw [spc_take b hb, show F.take (155 - 148) = F from List.take_of_length_le (Nat.le_of_eq hF), show 148 + Nat.min F.length (155 - 148) = 155 by rw [hF]; rfl, h2]
  simp

theorem checksum_sealed (h : Heap) (b : List UInt8) (hb : b.length = 512) : Cal Tryz.prog 116 #[arrv b] h (fun v h' => v = .tuple #[arrv (sseal b), .int .i64 (ssum b)] ∧ Ext h h') := by
 have hs0 : ssum b = csumN b 512 := by unfold ssum; rw [if_pos hb]
 have hsq : sseal b = b.take 148 ++ octf (ssum b) 7 ++ [32] ++ b.drop 156 := by unfold sseal; rw [if_pos hb]
 have hs1 := ssum_le b
 have hs2 := oct7_len b
 refine Ce Tryz.func116 fun σ => ?_
 refine Wr ?_
 refine L_mks (M_boxarr rfl) rfl rfl rfl ?_
 rintro _ h1 ⟨rfl, hx1, hb2⟩
 refine L_mks (M_allocarr (l := List.replicate 512 0) (by kernel_rfl)) rfl rfl rfl ?_
 rintro _ h2 ⟨rfl, hx3, hb4⟩
 refine Av ?_
 refine Ln (Xt (Wq (Wq (Wg ?_))))
 refine Av ?_
 refine Ln (Xt (Wb ?_))
 refine W_loop (S := Nat) (fun j => [(3, .int .i64 0), (2, .pointer (some ⟨h1.size, 0, none⟩)), (1, .pointer (some ⟨h.size, 0, none⟩)), (4, .int .i64 (148 + (j : Int)))]) (fun j h' => j ≤ 8 ∧ Buf h' h.size (spc b j) ∧ Buf h' h1.size (List.replicate 512 0) ∧ Ext h h') (fun j => 8 - j) 0 (tk4 3 2 1 4) ?_ ?_
 ·exact ⟨by omega, Buf.congr (hb2.ext hx3) (by simp [spc]), hb4, (hx1.trans hx3)⟩
 rintro j h3 ⟨hj, kb1, kb2, hx⟩
 show W _ _ _ _ _ [(3, .int .i64 0), (2, .pointer (some ⟨h1.size, 0, none⟩)), (1, .pointer (some ⟨h.size, 0, none⟩)), (4, .int .i64 (148 + (j : Int)))] _
 refine Wq (Wq (Wg ?_))
 refine Mv ?_
 refine Ly Yls ?_
 refine Nx ?_
 refine Sd (fun hl => ?_) fun hl => ?_
 ·refine Wk (Xt (Wq (Wb (Wg ?_))))
  refine Mv ?_
  refine Ly (Y_arraddr Tryz.underlying205 (show _ = some 1 by kernel_rfl) rfl rfl (by omega) (by omega)) ?_
  refine L_dos (D_storee (show _ = some 1 by kernel_rfl) rfl rfl (by omega) kb1 (by have := spc_len hb (show j ≤ 8 by omega); omega)) rfl rfl ?_
  rintro h4 ⟨hx5, hs6, hb7⟩
  refine Ln (Xb (Xt (Wg ?_)))
  refine Mv ?_
  refine Lad ?_
  refine Av ?_
  refine Ln ?_
  refine X_loop (j + 1) (sk3 3 2 1 rfl rfl rfl (sk1 4 (lki rfl (by omega)) sN)) ?_ ?_
  have hc8 := (kb2.only hx5 (ni_gt (ntl hb2.lt (Nat.le_refl _))))
  ·exact ⟨by omega, Buf.congr hb7 (by rw [show (148 + (j : Int)).toNat = 148 + j by omega]; exact spc_set hb (by omega)), hc8, (hx.then' hx5 (by simp) (Nat.le_refl _))⟩
  (try dsimp only)
  omega
 refine W_exit ?_
 refine Xe (Xe ?_)
 refine X_block_hit ?_
 refine Xt ?_
 obtain rfl : j = 8 := by omega
 refine Wa ?_
 refine Ln (Xt (Wq (Wq (Wg ?_))))
 refine Ly (Y_ldarr Tryz.underlying205 ((show _ = some 512 by kernel_rfl).trans (congrArg some (by simp [spc_len hb, sseal_len hb, hb]))) rfl kb1) ?_
 refine Mv ?_
 refine Ln (Xt (Wb ?_))
 refine W_loop (S := Nat) (fun i => [(16, arrv (spc b 8)), (3, .int .i64 0), (2, .pointer (some ⟨h1.size, 0, none⟩)), (1, .pointer (some ⟨h.size, 0, none⟩)), (5, .int .i64 (csumN b i)), (17, .int .i64 ((i : Int)))]) (fun i h' => i ≤ 512 ∧ h' = h3) (fun i => 512 - i) 0 (tk6 16 3 2 1 5 17) ?_ ?_
 ·exact ⟨Nat.zero_le _, rfl⟩
 rintro i h3 ⟨hi, rfl⟩
 show W _ _ _ _ _ [(16, arrv (spc b 8)), (3, .int .i64 0), (2, .pointer (some ⟨h1.size, 0, none⟩)), (1, .pointer (some ⟨h.size, 0, none⟩)), (5, .int .i64 (csumN b i)), (17, .int .i64 ((i : Int)))] _
 refine Wr ?_
 refine Ly Yls ?_
 refine Ln (Xt (Wq ?_))
 refine Sd (fun hl2 => ?_) fun hl2 => ?_
 ·refine Ws ?_
  have hcn := csumN_le b i
  have hbl := byt_lt (spc b 8) (i : Int).toNat
  refine Wq (Wb (Wq (Wg ?_)))
  refine Ly (Y_arridx Tryz.underlying205 Tryz.underlying5 (show _ = some 1 by kernel_rfl) rfl rfl (by simp [spc_len hb, sseal_len hb, hb]) (by omega) (by omega)) ?_
  refine Av ?_
  refine Ln (Xt (Wg ?_))
  refine M2 ?_
  refine Ly (Y_convs Tryz.underlying5 Tryz.underlying3 rfl (wrap_i64 (by omega) (by omega))) ?_
  refine Lad ?_
  refine Av ?_
  refine Ln (Xb (Xt ?_))
  refine Wu _ (tk6 5 16 3 2 1 17) ?_
  refine Wg ?_
  refine Lad ?_
  refine Mv ?_
  refine Ln ?_
  refine X_loop (i + 1) (sk4 16 3 2 1 rfl rfl rfl rfl (sk1 5 (lki rfl (by rw [show ((i : Int)).toNat = i by omega, spc_byt hb (by omega)]; rfl)) (tk1 17))) ?_ ?_
  ·exact ⟨by omega, rfl⟩
  (try dsimp only)
  omega
 refine W_exit ?_
 refine Xe (Xe ?_)
 refine X_block_hit ?_
 refine Xt ?_
 obtain rfl : i = 512 := by omega
 refine Wm ?_
 refine Lc (octal_Format _ (csumN b 512) (7 : Int) (by first | omega | rfl | (simp [spc_len hb, sseal_len hb, hb]; done) | (simp <;> omega))) ?_
 rintro _ h5 ⟨s09, rfl, hr010, hx11⟩
 refine Mx ?_
 refine A2 ?_
 refine Nx ?_
 refine Wu _ (tk5 8 3 2 1 5) ?_
 refine Wr ?_
 refine Ly (Y_arrslice Tryz.underlying205 (show _ = some 1 by kernel_rfl) rfl rfl rfl (by omega) (by omega) (by omega)) ?_
 refine Mv ?_
 refine L_mks (M_copysubb Tryz.underlying22 (show _ = some 1 by kernel_rfl) rfl rfl hr010 (kb1.ext hx11) (by omega) (by omega) (by omega) (by simp [spc_len hb])) rfl rfl rfl ?_
 rintro _ h6 ⟨rfl, hx12, hs13, hb14⟩
 have hb15 : Buf h6 h.size (sseal b) := Buf.congr hb14 (by rw [hsq, hs0]; exact spc_seal hb (by rw [← hs0]; exact hs2))
 refine Ln (Xt (Wq (Wg ?_)))
 refine Ly (Y_ldarr Tryz.underlying205 ((show _ = some 512 by kernel_rfl).trans (congrArg some (by simp [spc_len hb, sseal_len hb, hb]))) rfl hb15) ?_
 refine Mv ?_
 have hc19 := ((kb2.ext hx11).only hx12 (ni_gt (ntl hb2.lt (Nat.le_refl _))))
 refine L_dos (D_starr ((show _ = some 512 by kernel_rfl).trans (congrArg some (by simp [spc_len hb, sseal_len hb, hb]))) rfl rfl hc19 (by simp [spc_len hb, sseal_len hb, hb])) rfl rfl ?_
 rintro h7 ⟨hx16, hs17, hb18⟩
 refine An ?_
 refine Wu _ (tk2 3 2) ?_
 refine Wt ?_
 refine X_retv2 rfl (RV.arr rfl Tryz.underlying205 (show _ = some 512 by kernel_rfl) (by simp [spc_len hb, sseal_len hb, hb]) hb18) rfl ?_
 have me1 := ((hx.trans hx11).then' hx12 (by simp) (Nat.le_refl _)).then' hx16 (by simp) hx1.size
 exact ⟨by rw [hs0], me1⟩

theorem checksum_Seal (h : Heap) (v : Value) (b : List UInt8) (hb : Bytes h v b) : Cal Tryz.prog 81 #[v] h (fun v h' => ∃ s0, v = .tuple #[s0, .int .i64 (serr b)] ∧ OwnB h' h.size s0 (sseal b) ∧ Ext h h') := by
 refine Ce Tryz.func81 fun σ => ?_
 refine Wa ?_
 refine Av ?_
 refine Ln (Xt (Wq (Wq (Wg ?_))))
 refine Mv ?_
 refine Ly (Y_len Tryz.underlying22 rfl hb) ?_
 refine Ly Yne ?_
 refine Nx ?_
 refine Sd (fun g => ?_) fun g => ?_
 ·refine Wa ?_
  refine Av ?_
  refine Ln (Xt (Wt (Xr ?_)))
  refine Xv2 ?_
  refine ⟨_, by unfold serr; rw [if_neg (by omega)], ?_, (Ext.refl _)⟩
  unfold sseal
  rw [if_neg (by omega)]
  exact OwnB.nil _ _
 refine Ws ?_
 have hl : b.length = 512 := by omega
 have hl2 := sseal_len hl
 refine Wm ?_
 refine Ly (Y_toarr Tryz.underlying205 rfl hb (by omega)) ?_
 refine Ly (Y_ldtoarr Tryz.underlying205 ((show _ = some 512 by kernel_rfl).trans (congrArg some (by omega))) rfl hb (by omega)) ?_
 refine Lc (checksum_sealed _ b (by first | omega | rfl | (simp [hl2]; done) | (simp <;> omega))) ?_
 rintro _ h1 ⟨rfl, hx1⟩
 refine Mx ?_
 refine L_mks (M_allocarr (l := List.replicate 512 0) (by kernel_rfl)) rfl rfl rfl ?_
 rintro _ h2 ⟨rfl, hx2, hb3⟩
 refine L_dos (D_starr ((show _ = some 512 by kernel_rfl).trans (congrArg some (by simp [hl2]))) rfl rfl hb3 (by simp [hl2])) rfl rfl ?_
 rintro h3 ⟨hx4, hs5, hb6⟩
 refine An ?_
 refine Wu _ (tk3 4 3 2) ?_
 refine Wr ?_
 refine Ly (Y_arrall Tryz.underlying205 (show _ = some 1 by kernel_rfl) (by decide) rfl) ?_
 refine Lc (slices_CloneB _ (.slice (some ⟨h1.size, 0, none⟩) 512 512) (sseal b) (hb6.bytes (by simp [hl2])) (by first | omega | rfl | (simp [hl2]; done) | (simp <;> omega))) ?_
 rintro s07 h4 ⟨_, rfl, hr08, hx9⟩
 refine A2 ?_
 refine Ln (Xt (Wt ?_))
 refine Xv2 ?_
 exact ⟨_, by unfold serr; rw [if_pos hl], (hr08).low (nt (nt hx1.size hx2.size) hx4.size), (((hx1.trans hx2).then' hx4 (by simp) hx1.size).trans hx9)⟩

theorem checksum_Verify (h : Heap) (v : Value) (b : List UInt8) (hb : Bytes h v b) : Cal Tryz.prog 50 #[v] h (fun v h' => v = .int .i64 (sver b) ∧ Ext h h') := by
 refine Ce Tryz.func50 fun σ => ?_
 refine Wa ?_
 refine Ln (Xt (Wq (Wg ?_)))
 refine Mv ?_
 refine Lc (checksum_Seal _ v b hb) ?_
 rintro _ h1 ⟨s01, rfl, hr02, hx3⟩
 refine Mx ?_
 refine A2 ?_
 refine Ln (Xt (Wq (Wq (Wg ?_))))
 refine Mv ?_
 refine Ly Yne ?_
 refine Nx ?_
 refine Wu _ (tk5 11 4 3 2 0) ?_
 refine Sd (fun g => ?_) fun g => ?_
 ·refine Wm ?_
  refine Av ?_
  refine Ln (Xt (Wt (Xr ?_)))
  refine Xv1 ?_
  have hl : ¬ b.length = 512 := fun h9 => g (by unfold serr; rw [if_pos h9])
  refine ⟨?_, hx3⟩
  unfold sver serr
  rw [if_neg hl, if_neg hl]
 refine Ws ?_
 have hl : b.length = 512 := by apply Decidable.byContradiction; intro h9; apply g; unfold serr; rw [if_neg h9]; decide
 have hl2 := sseal_len hl
 refine Wq (Wq (Wg ?_))
 refine M2 ?_
 refine Lc (slices_EqualB _ s01 (sseal b) hr02.bytes v b (hb.ext hx3) (by first | omega | rfl | (simp <;> omega))) ?_
 rintro _ h1 ⟨rfl, rfl⟩
 refine Ly (Y_notd rfl) ?_
 refine Nx ?_
 refine Wu _ (tk2 16 2) ?_
 refine Sd (fun hq => ?_) fun hq => ?_
 ·refine Wa ?_
  refine Ln (Xt (Wt (Xr ?_)))
  refine Xv1 ?_
  exact ⟨by unfold sver; rw [if_pos hl, if_neg hq], hx3⟩
 refine Wk (Xt (Wq (Wg ?_)))
 refine Av ?_
 refine Ln (Xt (Wt ?_))
 refine Xv1 ?_
 exact ⟨by unfold sver; rw [if_pos hl, if_pos (Decidable.not_not.1 hq)], hx3⟩

/-! ### ustar: the fields -/
theorem field_of (h : Heap) (o : Nat) (w : Nat) (x : Value) (b : List UInt8) (hb : Bytes h x b) (hl : o + w ≤ b.length) (hm : b.length ≤ 140737488355328) : Cal Tryz.prog 51 #[.agg #[.int .i64 ((o : Int)), .int .i64 ((w : Int))], x] h (fun v h' => v = slcut 1 o (o + w) (x) ∧ Ext h h') := by
 refine Ce Tryz.func51 fun σ => ?_
 refine Wr ?_
 refine L_mks (M_box rfl) rfl rfl rfl ?_
 rintro _ h1 ⟨rfl, hn1⟩
 have hk2 : Blk h1 h.size [.int .i64 ((o : Int)), .int .i64 ((w : Int))] := hn1.blk
 refine Av ?_
 refine Ln (Xt (Wq (Wg ?_)))
 refine Mv ?_
 refine Lf 0 ?_
 refine Lb Tryz.underlying3 hk2 ?_
 refine Lf 0 ?_
 refine Lb Tryz.underlying3 hk2 ?_
 refine Lf 1 ?_
 refine Lb Tryz.underlying3 hk2 ?_
 refine Lad ?_
 have hb3 : Bytes h1 (slcut 1 ((o : Int)).toNat ((o : Int) + (w : Int)).toNat x) ((b.take ((o : Int) + (w : Int)).toNat).drop ((o : Int)).toNat) := Bytes.cutb (hb.ext hn1.ext) (by omega) (by omega)
 refine Ly (Y_cut Tryz.underlying22 (show _ = some 1 by kernel_rfl) rfl (hb.ext hn1.ext) rfl rfl (by omega) (by omega) (by omega)) ?_
 refine An ?_
 refine Wu _ (tk1 4) ?_
 refine Wt ?_
 refine Xv1 ?_
 exact ⟨by simp only [Int.toNat_natCast, show ((o : Int) + (w : Int)).toNat = o + w by omega], hn1.ext⟩

theorem field_number (h : Heap) (o : Nat) (w : Nat) (B : Nat) (N : Nat) (L : List UInt8) (hb : Buf h B L) (n : Int) (hN : L.length = N) (hm : N ≤ 140737488355328) (hl : o + w ≤ N) (ho : o < N) (hn : n ≤ 9223372036854775807) : Cal Tryz.prog 80 #[.agg #[.int .i64 ((o : Int)), .int .i64 ((w : Int))], .slice (some ⟨B, 0, none⟩) N N, .int .i64 (n)] h (fun v h' => v = .tuple #[] ∧ Only [B] h h' ∧ Buf h' B (L.take o ++ (octf n w).take (o + w - o) ++ L.drop (o + Nat.min (octf n w).length (o + w - o)))) := by
 refine Ce Tryz.func80 fun σ => ?_
 refine Wr ?_
 refine L_mks (M_box rfl) rfl rfl rfl ?_
 rintro _ h1 ⟨rfl, hn1⟩
 have hk2 : Blk h1 h.size [.int .i64 ((o : Int)), .int .i64 ((w : Int))] := hn1.blk
 refine Ln (Xt (Wq (Wg ?_)))
 refine Mv ?_
 refine Lf 1 ?_
 refine Lb Tryz.underlying3 hk2 ?_
 refine Lc (octal_Format _ n (w : Int) (by first | omega | rfl | (omega; done) | (simp <;> omega))) ?_
 rintro _ h2 ⟨s03, rfl, hr04, hx5⟩
 refine Mx ?_
 refine A2 ?_
 refine Nx ?_
 refine Wu _ (tk3 6 3 1) ?_
 refine Wg ?_
 refine Lg Tryz.underlying117 (hk2.ext hx5) ?_
 refine Mv ?_
 refine Lc (field_of _ o w (.slice (some ⟨B, 0, none⟩) N N) L ((hb.bytes (by first | omega | (simp; omega))).ext (hn1.ext.trans hx5)) (by first | omega | rfl | (omega; done) | (simp <;> omega)) (by first | omega | rfl | (omega; done) | (simp <;> omega))) ?_
 rintro _ h3 ⟨rfl, hx6⟩
 refine Mv ?_
 refine L_mks (M_copysubb Tryz.underlying22 (show _ = some 1 by kernel_rfl) rfl rfl (hr04.ext hx6) (hb.ext ((hn1.ext.trans hx5).trans hx6)) (by omega) (by omega) (by omega) (by omega)) rfl rfl rfl ?_
 rintro _ h4 ⟨rfl, hx7, hs8, hb9⟩
 refine Ln ?_
 refine X_end ?_
 refine X_end0 rfl ?_
 exact ⟨rfl, (Only.trans (Only.trans (Only.trans (Only.trans (Only.refl _ _) hn1.ext (fun _ hb_ => by cases hb_)) hx5 (fun _ hb_ => by cases hb_)) hx6 (fun _ hb_ => by cases hb_)) hx7 (fun b_ hb_ => .inl (by simp only [List.mem_cons, List.not_mem_nil, or_false] at hb_ ⊢; omega))), hb9⟩

/-! ### ustar: Check -/
theorem u8_eq {t : Int} (ht : 0 ≤ t ∧ t ≤ 255) {n : Nat} (hn : n < 256) : t.toNat.toUInt8 = n.toUInt8 ↔ t = n := by
  constructor
  · intro h
    have h1 := congrArg UInt8.toNat h
    rw [show (t.toNat.toUInt8).toNat = t.toNat % 256 from rfl, show (n.toUInt8).toNat = n % 256 from rfl, Nat.mod_eq_of_lt (by omega), Nat.mod_eq_of_lt hn] at h1
    omega
  · rintro rfl; simp
theorem known_mem {t : Int} (ht : 0 ≤ t ∧ t ≤ 255) : uknown t = true ↔ t.toNat.toUInt8 ∈ ([48, 49, 50, 53, 120] : List UInt8) := by
  simp only [List.mem_cons, List.not_mem_nil, or_false, uknown, decide_eq_true_eq]
  rw [show (48 : UInt8) = (48 : Nat).toUInt8 from rfl, show (49 : UInt8) = (49 : Nat).toUInt8 from rfl, show (50 : UInt8) = (50 : Nat).toUInt8 from rfl, show (53 : UInt8) = (53 : Nat).toUInt8 from rfl, show (120 : UInt8) = (120 : Nat).toUInt8 from rfl,
    u8_eq ht (by decide), u8_eq ht (by decide), u8_eq ht (by decide), u8_eq ht (by decide), u8_eq ht (by decide)]
  omega
theorem known_idx {t : Int} (ht : 0 ≤ t ∧ t ≤ 255) : (Lib.indexByte [48, 49, 50, 53, 120] t.toNat.toUInt8 < 0) ↔ uknown t = false := by
  have h1 := indexByte_mem [48, 49, 50, 53, 120] t.toNat.toUInt8
  rw [← known_mem ht] at h1
  cases hk : uknown t <;> rw [hk] at h1 <;> simp at h1 ⊢ <;> omega

theorem ustar_Check (h : Heap) (hG : Glb h) (t : Int) (name : List UInt8) (pre : List UInt8) (link : List UInt8) (mode : Int) (size : Int) (ht : 0 ≤ t ∧ t ≤ 255) : Cal Tryz.prog 79 #[.agg #[.int .u8 (t), str name, str pre, str link, .int .i64 (mode), .int .i64 (size)]] h (fun v h' => v = .int .i64 (ucheck t name pre link mode size) ∧ Ext h h') := by
 refine Ce Tryz.func79 fun σ => ?_
 refine Wr ?_
 refine L_mks (M_box rfl) rfl rfl rfl ?_
 rintro _ h1 ⟨rfl, hn1⟩
 have hk2 : Blk h1 h.size [.int .u8 (t), str name, str pre, str link, .int .i64 (mode), .int .i64 (size)] := hn1.blk
 refine Av ?_
 refine Ln (Xt (Wq (Wq (Wg ?_))))
 refine Lf 0 ?_
 refine Lb Tryz.underlying5 hk2 ?_
 refine Lc (strings_IndexByte _ [48, 49, 50, 53, 120] t) ?_
 rintro _ h1 ⟨rfl, rfl⟩
 refine Ly Yls ?_
 refine Nx ?_
 refine Sd (fun k => ?_) fun k => ?_
 ·refine Wa ?_
  refine Ln (Xt (Wt (Xr ?_)))
  refine Xv1 ?_
  exact ⟨by unfold ucheck; rw [if_pos ((known_idx ht).1 k)], hn1.ext⟩
 refine Ws ?_
 have k' : ¬ uknown t = false := fun h9 => k ((known_idx ht).2 h9)
 refine Wq (Wq (Wg ?_))
 refine Lf 1 ?_
 refine Lb Tryz.underlying9 hk2 ?_
 refine Ly (Y_ldclsA (us := [.int .i64 0, .int .i64 100]) Tryz.underlying117 rfl (show _ = some 2 by kernel_rfl) rfl ((hG.ext hn1.ext)).g0 rfl) ?_
 refine Ly (Yb (.agg #[str name, .int .i64 0, .int .i64 100]) [0, 1] [.tmp 12, .tmp 13] [str name, .agg #[.int .i64 0, .int .i64 100]]) ?_
 refine Lf 3 ?_
 refine Lb Tryz.underlying9 hk2 ?_
 refine Ly (Y_ldclsA (us := [.int .i64 157, .int .i64 100]) Tryz.underlying117 rfl (show _ = some 2 by kernel_rfl) rfl ((hG.ext hn1.ext)).g7 rfl) ?_
 refine Ly (Yb (.agg #[str link, .int .i64 157, .int .i64 100]) [0, 1] [.tmp 16, .tmp 17] [str link, .agg #[.int .i64 157, .int .i64 100]]) ?_
 refine Lf 2 ?_
 refine Lb Tryz.underlying9 hk2 ?_
 refine Ly (Y_ldclsA (us := [.int .i64 345, .int .i64 155]) Tryz.underlying117 rfl (show _ = some 2 by kernel_rfl) rfl ((hG.ext hn1.ext)).g11 rfl) ?_
 refine Ly (Yb (.agg #[str pre, .int .i64 345, .int .i64 155]) [0, 1] [.tmp 20, .tmp 21] [str pre, .agg #[.int .i64 345, .int .i64 155]]) ?_
 refine L_mks (M_buildSlice (cells := [str name, .int .i64 0, .int .i64 100, str link, .int .i64 157, .int .i64 100, str pre, .int .i64 345, .int .i64 155]) (pv := [(0, .agg #[str name, .int .i64 0, .int .i64 100]), (1, .agg #[str link, .int .i64 157, .int .i64 100]), (2, .agg #[str pre, .int .i64 345, .int .i64 155])]) (E := 201) (evp (is := [0, 1, 2]) (os := [.tmp 14, .tmp 18, .tmp 22]) (vs := [.agg #[str name, .int .i64 0, .int .i64 100], .agg #[str link, .int .i64 157, .int .i64 100], .agg #[str pre, .int .i64 345, .int .i64 155]]) rfl rfl) (fun _ => by kernel_rfl)) rfl rfl rfl ?_
 rintro _ h2 ⟨rfl, hn3⟩
 have hk4 : Blk h2 h1.size [str name, .int .i64 0, .int .i64 100, str link, .int .i64 157, .int .i64 100, str pre, .int .i64 345, .int .i64 155] := hn3.blk
 refine Ly (Y_lensl Tryz.underlying202 rfl) ?_
 refine Mv ?_
 refine Nx ?_
 refine Wu _ (tk5 25 24 23 2 1) ?_
 refine Wb ?_
 refine W_rounds 3 ?_
 refine Wr ?_
 refine Ly Yls ?_
 refine Ln (Xt (Wq ?_))
 refine W_known true rfl (by first | rfl | decide | simp) ?_
 refine Wk (Xt (Wq (Wb (Wq (Wg ?_)))))
 refine Ly (Y_idxlit (off := 0) Tryz.underlying202 (show _ = some 3 by kernel_rfl) rfl rfl (by decide) (by decide) rfl) ?_
 refine Ly (Y_ldbox (us := [str name, .int .i64 0, .int .i64 100]) Tryz.underlying201 rfl (show _ = some 3 by kernel_rfl) rfl hk4 rfl) ?_
 refine L_mks (M_alloc (u := .agg #[str [], .int .i64 0, .int .i64 0]) (by kernel_rfl)) rfl rfl rfl ?_
 rintro _ h3 ⟨rfl, hn5⟩
 have hk6 : Blk h3 h2.size [str [], .int .i64 0, .int .i64 0] := hn5.blk
 refine Lds [str name, .int .i64 0, .int .i64 100] hk6 ?_
 rintro h4 hp7
 have hk8 : Blk h4 h2.size [str name, .int .i64 0, .int .i64 100] := hp7.blk
 refine Ln (Xt (Wq (Wg ?_)))
 refine Lf 0 ?_
 refine Lb Tryz.underlying9 hk8 ?_
 refine Lf 1 ?_
 refine Lf 1 ?_
 refine Lb Tryz.underlying3 hk8 ?_
 refine Lc (cstring_Format _ name (100 : Int)) ?_
 rintro _ h5 ⟨s09, rfl, hr010, hx11⟩
 refine Mx ?_
 refine A2 ?_
 refine Ln (Xt (Wq (Wg ?_)))
 refine Mv ?_
 refine Ly Yne ?_
 refine Nx ?_
 refine Sd (fun e1 => ?_) fun e1 => ?_
 ·refine Wm ?_
  refine Av ?_
  refine Ln (Xt (Wt (Yr (Xr (Xr (Yr (Xr ?_)))))))
  refine Xv1 ?_
  have me1 := ((hn1.ext.trans hn3.ext).trans hn5.ext).then' hp7.only (by simp) (nt hn1.ext.size hn3.ext.size)
  exact ⟨by unfold ucheck; rw [if_neg k', if_pos e1], (me1.trans hx11)⟩
 refine Wk (Xb (Xt (Wg ?_)))
 refine Ly (Y_addl (r := 1) rfl rfl (by decide) (by decide) (by decide)) ?_
 refine Mv ?_
 refine Ln ?_
 refine X_round ?_
 refine Wr ?_
 refine Ly Yls ?_
 refine Ln (Xt (Wq ?_))
 refine W_known true rfl (by first | rfl | decide | simp) ?_
 refine Wk (Xt (Wq (Wb (Wq (Wg ?_)))))
 refine Ly (Y_idxlit (off := 3) Tryz.underlying202 (show _ = some 3 by kernel_rfl) rfl rfl (by decide) (by decide) rfl) ?_
 have me2 := (hn5.ext.then' hp7.only (by simp) (Nat.le_refl _)).trans hx11
 refine Ly (Y_ldbox (us := [str link, .int .i64 157, .int .i64 100]) Tryz.underlying201 rfl (show _ = some 3 by kernel_rfl) rfl (hk4.ext me2) rfl) ?_
 refine L_mks (M_alloc (u := .agg #[str [], .int .i64 0, .int .i64 0]) (by kernel_rfl)) rfl rfl rfl ?_
 rintro _ h6 ⟨rfl, hn12⟩
 have hk13 : Blk h6 h5.size [str [], .int .i64 0, .int .i64 0] := hn12.blk
 refine Lds [str link, .int .i64 157, .int .i64 100] hk13 ?_
 rintro h7 hp14
 have hk15 : Blk h7 h5.size [str link, .int .i64 157, .int .i64 100] := hp14.blk
 refine Ln (Xt (Wq (Wg ?_)))
 refine Lf 0 ?_
 refine Lb Tryz.underlying9 hk15 ?_
 refine Lf 1 ?_
 refine Lf 1 ?_
 refine Lb Tryz.underlying3 hk15 ?_
 refine Lc (cstring_Format _ link (100 : Int)) ?_
 rintro _ h8 ⟨s016, rfl, hr017, hx18⟩
 refine Mx ?_
 refine A2 ?_
 refine Ln (Xt (Wq (Wg ?_)))
 refine Mv ?_
 refine Ly Yne ?_
 refine Nx ?_
 refine Sd (fun e2 => ?_) fun e2 => ?_
 ·refine Wm ?_
  refine Av ?_
  refine Ln (Xt (Wt (Yr (Xr (Xr (Yr (Xr ?_)))))))
  refine Xv1 ?_
  have me3 := nt (nt (nt hn1.ext.size hn3.ext.size) hn5.ext.size) hp7.only.size
  have me4 := ((hn1.ext.trans hn3.ext).trans hn5.ext).then' hp7.only (by simp) (nt hn1.ext.size hn3.ext.size)
  have me5 := ((me4.trans hx11).trans hn12.ext).then' hp14.only (by simp) (nt me3 hx11.size)
  exact ⟨by unfold ucheck; rw [if_neg k', if_neg e1, if_pos e2], (me5.trans hx18)⟩
 refine Wk (Xb (Xt (Wg ?_)))
 refine Ly (Y_addl (r := 2) rfl rfl (by decide) (by decide) (by decide)) ?_
 refine Mv ?_
 refine Ln ?_
 refine X_round ?_
 refine Wr ?_
 refine Ly Yls ?_
 refine Ln (Xt (Wq ?_))
 refine W_known true rfl (by first | rfl | decide | simp) ?_
 refine Wk (Xt (Wq (Wb (Wq (Wg ?_)))))
 refine Ly (Y_idxlit (off := 6) Tryz.underlying202 (show _ = some 3 by kernel_rfl) rfl rfl (by decide) (by decide) rfl) ?_
 have me6 := (me2.trans hn12.ext).then' hp14.only (by simp) (nt (nt hn5.ext.size hp7.only.size) hx11.size)
 refine Ly (Y_ldbox (us := [str pre, .int .i64 345, .int .i64 155]) Tryz.underlying201 rfl (show _ = some 3 by kernel_rfl) rfl (hk4.ext (me6.trans hx18)) rfl) ?_
 refine L_mks (M_alloc (u := .agg #[str [], .int .i64 0, .int .i64 0]) (by kernel_rfl)) rfl rfl rfl ?_
 rintro _ h9 ⟨rfl, hn19⟩
 have hk20 : Blk h9 h8.size [str [], .int .i64 0, .int .i64 0] := hn19.blk
 refine Lds [str pre, .int .i64 345, .int .i64 155] hk20 ?_
 rintro h10 hp21
 have hk22 : Blk h10 h8.size [str pre, .int .i64 345, .int .i64 155] := hp21.blk
 refine Ln (Xt (Wq (Wg ?_)))
 refine Lf 0 ?_
 refine Lb Tryz.underlying9 hk22 ?_
 refine Lf 1 ?_
 refine Lf 1 ?_
 refine Lb Tryz.underlying3 hk22 ?_
 refine Lc (cstring_Format _ pre (155 : Int)) ?_
 rintro _ h11 ⟨s023, rfl, hr024, hx25⟩
 refine Mx ?_
 refine A2 ?_
 refine Ln (Xt (Wq (Wg ?_)))
 refine Mv ?_
 refine Ly Yne ?_
 refine Nx ?_
 refine Sd (fun e3 => ?_) fun e3 => ?_
 ·refine Wm ?_
  refine Av ?_
  refine Ln (Xt (Wt (Yr (Xr (Xr (Yr (Xr ?_)))))))
  refine Xv1 ?_
  have me7 := nt (nt (nt hn1.ext.size hn3.ext.size) hn5.ext.size) hp7.only.size
  have me8 := nt (nt (nt (nt me7 hx11.size) hn12.ext.size) hp14.only.size) hx18.size
  have me9 := ((hn1.ext.trans hn3.ext).trans hn5.ext).then' hp7.only (by simp) (nt hn1.ext.size hn3.ext.size)
  have me10 := ((me9.trans hx11).trans hn12.ext).then' hp14.only (by simp) (nt me7 hx11.size)
  have me11 := ((me10.trans hx18).trans hn19.ext).then' hp21.only (by simp) me8
  exact ⟨by unfold ucheck; rw [if_neg k', if_neg e1, if_neg e2, if_pos e3], (me11.trans hx25)⟩
 refine Wk (Xb (Xt (Wg ?_)))
 refine Ly (Y_addl (r := 3) rfl rfl (by decide) (by decide) (by decide)) ?_
 refine Mv ?_
 refine Ln ?_
 refine X_round ?_
 refine Wr ?_
 refine Ly Yls ?_
 refine Ln (Xt (Wq ?_))
 refine W_known false rfl (by first | rfl | decide | simp) ?_
 refine W_exit ?_
 refine Xe (Xe ?_)
 refine X_block_hit ?_
 refine Xt ?_
 refine Wu _ (tk2 2 1) ?_
 refine Wq (Wb ?_)
 refine Wc [(42, .bool (decide ((mode < 0) ∨ (4095 < mode)))), (2, .int .i64 0), (1, .pointer (some ⟨h.size, 0, none⟩))] (fun h' => h' = h11) ?_ ?_
 ·refine Wg ?_
  refine Lf 4 ?_
  have me12 := nt (nt (nt hn3.ext.size hn5.ext.size) hp7.only.size) hx11.size
  have me13 := (hn3.ext.trans hn5.ext).then' hp7.only (by simp) hn3.ext.size
  have me14 := ((me13.trans hx11).trans hn12.ext).then' hp14.only (by simp) me12
  have me15 := ((me14.trans hx18).trans hn19.ext).then' hp21.only (by simp) (nt (nt (nt me12 hn12.ext.size) hp14.only.size) hx18.size)
  refine Lb Tryz.underlying3 (hk2.ext (me15.trans hx25)) ?_
  refine Ly Yls ?_
  refine Mv ?_
  refine L_splitd (d := 46) rfl (fun c26 => ?_) (fun c26 => ?_)
  ·refine Sk2 ?_
   refine Skp ?_
   refine Ly Ypt ?_
   refine Av ?_
   refine Ln ?_
   exact X_cut () (sk1 42 (lkb rfl (by first | (simp only [eq_true c26, SB]; done) | (simp only [eq_true c26, SB]; rfl))) (sk1 2 rfl (tk1 1))) rfl
  refine Lf 4 ?_
  refine Lb Tryz.underlying3 (hk2.ext (me15.trans hx25)) ?_
  refine Ly (Y_gtr rfl rfl) ?_
  refine Ly Ypf ?_
  refine Av ?_
  refine Ln ?_
  exact X_cut () (sk1 42 (lkb rfl (by first | (simp only [eq_false c26, SB]; done) | (simp only [eq_false c26, SB]; rfl))) (sk1 2 rfl (tk1 1))) rfl
 rintro h11 rfl
 refine Sd (fun m => ?_) fun m => ?_
 ·refine Wa ?_
  refine Ln (Xt (Wt (Yr (Xr ?_))))
  refine Xv1 ?_
  have me16 := nt (nt (nt hn1.ext.size hn3.ext.size) hn5.ext.size) hp7.only.size
  have me17 := nt (nt (nt (nt me16 hx11.size) hn12.ext.size) hp14.only.size) hx18.size
  have me18 := ((hn1.ext.trans hn3.ext).trans hn5.ext).then' hp7.only (by simp) (nt hn1.ext.size hn3.ext.size)
  have me19 := ((me18.trans hx11).trans hn12.ext).then' hp14.only (by simp) (nt me16 hx11.size)
  have me20 := ((me19.trans hx18).trans hn19.ext).then' hp21.only (by simp) me17
  exact ⟨by unfold ucheck; rw [if_neg k', if_neg e1, if_neg e2, if_neg e3, if_pos m], (me20.trans hx25)⟩
 refine Wc [(51, .bool (decide ((size < 0) ∨ (8589934591 < size)))), (2, .int .i64 0)] (fun h' => h' = h11) ?_ ?_
 ·refine Wg ?_
  refine Lf 5 ?_
  have me21 := nt (nt (nt hn3.ext.size hn5.ext.size) hp7.only.size) hx11.size
  have me22 := (hn3.ext.trans hn5.ext).then' hp7.only (by simp) hn3.ext.size
  have me23 := ((me22.trans hx11).trans hn12.ext).then' hp14.only (by simp) me21
  have me24 := ((me23.trans hx18).trans hn19.ext).then' hp21.only (by simp) (nt (nt (nt me21 hn12.ext.size) hp14.only.size) hx18.size)
  refine Lb Tryz.underlying2 (hk2.ext (me24.trans hx25)) ?_
  refine Ly Yls ?_
  refine Mv ?_
  refine L_splitd (d := 55) rfl (fun c27 => ?_) (fun c27 => ?_)
  ·refine Sk2 ?_
   refine Skp ?_
   refine Ly Ypt ?_
   refine Av ?_
   refine Ln ?_
   exact X_cut () (sk1 51 (lkb rfl (by first | (simp only [eq_true c27, SB]; done) | (simp only [eq_true c27, SB]; rfl))) (tk1 2)) rfl
  refine Lf 5 ?_
  refine Lb Tryz.underlying2 (hk2.ext (me24.trans hx25)) ?_
  refine Ly (Y_gtr rfl rfl) ?_
  refine Ly Ypf ?_
  refine Av ?_
  refine Ln ?_
  exact X_cut () (sk1 51 (lkb rfl (by first | (simp only [eq_false c27, SB]; done) | (simp only [eq_false c27, SB]; rfl))) (tk1 2)) rfl
 rintro h11 rfl
 refine Sd (fun z => ?_) fun z => ?_
 ·refine Wa ?_
  refine Ln (Xt (Wt (Yr (Xr ?_))))
  refine Xv1 ?_
  have me25 := nt (nt (nt hn1.ext.size hn3.ext.size) hn5.ext.size) hp7.only.size
  have me26 := nt (nt (nt (nt me25 hx11.size) hn12.ext.size) hp14.only.size) hx18.size
  have me27 := ((hn1.ext.trans hn3.ext).trans hn5.ext).then' hp7.only (by simp) (nt hn1.ext.size hn3.ext.size)
  have me28 := ((me27.trans hx11).trans hn12.ext).then' hp14.only (by simp) (nt me25 hx11.size)
  have me29 := ((me28.trans hx18).trans hn19.ext).then' hp21.only (by simp) me26
  exact ⟨by unfold ucheck; rw [if_neg k', if_neg e1, if_neg e2, if_neg e3, if_neg m, if_pos z], (me29.trans hx25)⟩
 refine Wk (Xb (Xt (Wq (Wg ?_))))
 refine Av ?_
 refine Ln (Xt (Wt ?_))
 refine Xv1 ?_
 have me30 := nt (nt (nt hn1.ext.size hn3.ext.size) hn5.ext.size) hp7.only.size
 have me31 := nt (nt (nt (nt me30 hx11.size) hn12.ext.size) hp14.only.size) hx18.size
 have me32 := ((hn1.ext.trans hn3.ext).trans hn5.ext).then' hp7.only (by simp) (nt hn1.ext.size hn3.ext.size)
 have me33 := ((me32.trans hx11).trans hn12.ext).then' hp14.only (by simp) (nt me30 hx11.size)
 have me34 := ((me33.trans hx18).trans hn19.ext).then' hp21.only (by simp) me31
 exact ⟨by unfold ucheck; rw [if_neg k', if_neg e1, if_neg e2, if_neg e3, if_neg m, if_neg z], (me34.trans hx25)⟩

end Go.Xp
