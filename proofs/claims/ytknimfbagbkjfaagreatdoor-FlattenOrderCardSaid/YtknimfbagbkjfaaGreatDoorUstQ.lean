/- Layer 7 (ustar): the reference's functions. -/
import Derived.Test.YtknimfbagbkjfaaGreatDoorSum
import Derived.Test.YtknimfbagbkjfaaGreatDoorBox
import Derived.Test.YtknimfbagbkjfaaGreatDoorUstD
import Derived.Test.YtknimfbagbkjfaaGreatDoorOf
import Derived.Test.YtknimfbagbkjfaaGreatDoorGlb
import Derived.Test.YtknimfbagbkjfaaGreatDoorSlc
set_option linter.unusedSimpArgs false
set_option linter.unusedVariables false
namespace Go.Xp
open Go.Proofs

def ubody (t : Int) (name pre link : List UInt8) (mode size : Int) : List UInt8 :=
  cfmt name 100 ++ octf mode 8 ++ octf 0 8 ++ octf 0 8 ++ octf size 12 ++ octf 0 12 ++ [32, 32, 32, 32, 32, 32, 32, 32] ++ [t.toNat.toUInt8] ++ cfmt link 100 ++ [117, 115, 116, 97, 114, 0, 48, 48] ++ cfmt [] 32 ++ cfmt [] 32 ++ octf 0 8 ++ octf 0 8 ++ cfmt pre 155 ++ cfmt [] 12
def uenc (t : Int) (name pre link : List UInt8) (mode size : Int) : List UInt8 := if ucheck t name pre link mode size = 0 then sseal (ubody t name pre link mode size) else []

end Go.Xp

/- Layer 7: the reference's Encode. -/
set_option linter.unusedSimpArgs false
set_option linter.unusedVariables false
namespace Go.Xp
open Go.Proofs

end Go.Xp

/- Layers 3 and 7: the program's checksum and ustar without Decode. -/
set_option linter.unusedSimpArgs false
set_option linter.unusedVariables false
namespace Go.Xp
open Go.Proofs

/-! ### The checksum -/
def spc (b : List UInt8) (i : Nat) : List UInt8 := b.take 148 ++ List.replicate i 32 ++ b.drop (148 + i)
theorem spc_len {b : List UInt8} (hb : b.length = 512) {i : Nat} (hi : i ≤ 8) : (spc b i).length = 512 := by
  simp [spc, hb]; omega
theorem spc_set {b : List UInt8} (hb : b.length = 512) {i : Nat} (hi : i < 8) : (spc b i).set (148 + i) 32 = spc b (i + 1) := by
  unfold spc
  have h1 : b.drop (148 + i) = b[148 + i]'(by omega) :: b.drop (148 + (i + 1)) := by rw [List.drop_eq_getElem_cons (by omega)]; rfl
  rw [h1, List.set_append_right _ _ (by simp [hb])]
  simp [hb, List.replicate_succ']
theorem spc_byt' {b : List UInt8} (hb : b.length = 512) {i k : Nat} (hi : i ≤ 8) (hk : k < 512) : byt (spc b i) k = if 148 ≤ k ∧ k < 148 + i then 32 else byt b k := by
  have hl := spc_len hb hi
  rw [byt_eq (by omega)]
  unfold spc
  by_cases h1 : k < 148
  · rw [if_neg (by omega), byt_eq (by omega)]
    simp only [List.append_assoc]
    rw [List.getElem_append_left (by simp [hb]; omega)]
    simp
  · by_cases h2 : k < 148 + i
    · rw [if_pos (by omega), List.getElem_append_left (by simp [hb]; omega), List.getElem_append_right (by simp [hb]; omega)]
      simp
    · rw [if_neg (by omega), byt_eq (by omega), List.getElem_append_right (by simp [hb]; omega)]
      simp only [List.length_append, List.length_take, List.length_replicate, hb, List.getElem_drop]
      have e : 148 + i + (k - (min 148 512 + i)) = k := by omega
      simp only [e]
theorem spc_byt {b : List UInt8} (hb : b.length = 512) {k : Nat} (hk : k < 512) : byt (spc b 8) k = if 148 ≤ k ∧ k < 156 then 32 else byt b k := spc_byt' hb (Nat.le_refl 8) hk
theorem spc_take (b : List UInt8) (hb : b.length = 512) (i : Nat) : (spc b i).take 148 = b.take 148 := by
  unfold spc; rw [List.append_assoc, List.take_append_of_le_length (by simp [hb]), List.take_take, Nat.min_self]
theorem spc_drop (b : List UInt8) (hb : b.length = 512) (i : Nat) : (spc b (i + 1)).drop (148 + i) = [32] ++ b.drop (148 + (i + 1)) := by
  unfold spc
  rw [List.replicate_succ', List.drop_append, List.drop_append, List.drop_append]
  simp [hb]
theorem spc_seal {b : List UInt8} (hb : b.length = 512) {F : List UInt8} (hF : F.length = 7) : (spc b 8).take 148 ++ F.take (155 - 148) ++ (spc b 8).drop (148 + Nat.min F.length (155 - 148)) = b.take 148 ++ F ++ [32] ++ b.drop 156 := by
  have h2 : (spc b 8).drop 155 = [32] ++ b.drop 156 := spc_drop b hb 7
  rw [spc_take b hb, show F.take (155 - 148) = F from List.take_of_length_le (Nat.le_of_eq hF), show 148 + Nat.min F.length (155 - 148) = 155 by rw [hF]; rfl, h2]
  simp

set_option maxRecDepth 100000 in
theorem checksum_sealed (h : Heap) (b : List UInt8) (hb : b.length = 512) : Cal Tryz.prog 63 #[arrv b] h (fun v h' => v = .tuple #[arrv (sseal b), .int .i64 (ssum b)] ∧ Ext h h') := by
 have hs0 : ssum b = csumN b 512 := by unfold ssum; rw [if_pos hb]
 have hsq : sseal b = b.take 148 ++ octf (ssum b) 7 ++ [32] ++ b.drop 156 := by unfold sseal; rw [if_pos hb]
 have hs1 := ssum_le b
 have hs2 := oct7_len b
 refine Cal_enter (args := [arrv b]) Tryz.func63 rfl rfl rfl (fun σ => ?_)
 refine Wr ?_
 refine L_mks (M_boxarr rfl) rfl rfl rfl ?_
 rintro _ h1 ⟨rfl, hx1, hb2⟩
 refine L_mks (M_allocarr (l := List.replicate 512 0) (by kernel_rfl)) rfl rfl rfl ?_
 rintro _ h2 ⟨rfl, hx3, hb4⟩
 refine Av ?_
 refine Nx ?_
 refine W_sub _ (tk3 3 2 1) ?_
 refine W_seq (W_seq (W_region ?_))
 refine Av ?_
 refine L_nil (X_then (W_block ?_))
 refine W_loop (S := Nat) (fun j => [(3, .int .i64 0), (2, .pointer (some ⟨h1.size, 0, none⟩)), (1, .pointer (some ⟨h.size, 0, none⟩)), (4, .int .i64 (148 + (j : Int)))]) (fun j h' => j ≤ 8 ∧ Buf h' h.size (spc b j) ∧ Buf h' h1.size (List.replicate 512 0) ∧ Ext h h') (fun j => 8 - j) 0 (tk4 3 2 1 4) ?_ ?_
 ·exact ⟨by omega, Buf.congr (hb2.ext hx3) (by simp [spc]), hb4, (hx1.trans hx3)⟩
 rintro j h3 ⟨hj, kb1, kb2, hx⟩
 show W _ _ _ _ _ [(3, .int .i64 0), (2, .pointer (some ⟨h1.size, 0, none⟩)), (1, .pointer (some ⟨h.size, 0, none⟩)), (4, .int .i64 (148 + (j : Int)))] _
 refine W_seq (W_seq (W_region ?_))
 refine Mv ?_
 refine Ly (Y_lss rfl rfl) ?_
 refine Nx ?_
 refine W_sub _ (tk5 11 3 2 1 4) ?_
 refine W_splitd rfl (fun hl => ?_) (fun hl => ?_)
 ·refine Ws ?_
  refine W_sub _ (tk4 3 2 1 4) ?_
  refine W_seq (W_block (W_region ?_))
  refine Mv ?_
  refine Ly (Y_arraddr Tryz.underlying119 (show _ = some 1 by kernel_rfl) rfl rfl (by omega) (by omega)) ?_
  refine L_dos (D_storee (show _ = some 1 by kernel_rfl) rfl rfl (by omega) kb1 (by have := spc_len hb (show j ≤ 8 by omega); omega)) rfl rfl ?_
  rintro h4 ⟨hx5, hs6, hb7⟩
  refine L_nil (X_block (X_then ?_))
  refine W_sub _ (tk4 3 2 1 4) ?_
  refine W_region ?_
  refine Mv ?_
  refine Ly (Y_add rfl rfl (by omega) (by omega)) ?_
  refine Av ?_
  refine L_nil ?_
  refine X_loop (j + 1) (sk3 3 2 1 rfl rfl rfl (sk1 4 (lki rfl (by omega)) sN)) ?_ ?_
  have hc8 := (kb2.only hx5 (ni_gt (Nat.lt_of_lt_of_le hb2.lt (Nat.le_refl _))))
  ·exact ⟨by omega, Buf.congr hb7 (by rw [show (148 + (j : Int)).toNat = 148 + j by omega]; exact spc_set hb (by omega)), hc8, (hx.then' hx5 (by simp) (Nat.le_refl _))⟩
  (try dsimp only)
  omega
 refine W_exit ?_
 refine X_then_exit (X_then_exit ?_)
 refine X_block_hit ?_
 refine X_then ?_
 refine W_sub _ (tk3 3 2 1) ?_
 obtain rfl : j = 8 := by omega
 refine Wr ?_
 refine Av ?_
 refine L_nil (X_then (W_seq (W_seq (W_region ?_))))
 refine Ly (Y_ldarr Tryz.underlying119 ((show _ = some 512 by kernel_rfl).trans (congrArg some (by simp [spc_len hb, sseal_len hb, hb]))) rfl kb1) ?_
 refine Mv ?_
 refine L_nil (X_then (W_block ?_))
 refine W_loop (S := Nat) (fun i => [(16, arrv (spc b 8)), (3, .int .i64 0), (2, .pointer (some ⟨h1.size, 0, none⟩)), (1, .pointer (some ⟨h.size, 0, none⟩)), (5, .int .i64 (csumN b i)), (17, .int .i64 ((i : Int)))]) (fun i h' => i ≤ 512 ∧ h' = h3) (fun i => 512 - i) 0 (tk6 16 3 2 1 5 17) ?_ ?_
 ·exact ⟨Nat.zero_le _, rfl⟩
 rintro i h3 ⟨hi, rfl⟩
 show W _ _ _ _ _ [(16, arrv (spc b 8)), (3, .int .i64 0), (2, .pointer (some ⟨h1.size, 0, none⟩)), (1, .pointer (some ⟨h.size, 0, none⟩)), (5, .int .i64 (csumN b i)), (17, .int .i64 ((i : Int)))] _
 refine Wr ?_
 refine Ly (Y_lss rfl rfl) ?_
 refine L_nil (X_then (W_seq ?_))
 refine W_splitd rfl (fun hl2 => ?_) (fun hl2 => ?_)
 ·refine Ws ?_
  refine W_sub _ (tk6 16 3 2 1 5 17) ?_
  have hcn := csumN_le b i
  have hbl := byt_lt (spc b 8) (i : Int).toNat
  refine W_seq (W_block (W_seq (W_region ?_)))
  refine Ly (Y_arridx Tryz.underlying119 Tryz.underlying5 (show _ = some 1 by kernel_rfl) rfl rfl (by simp [spc_len hb, sseal_len hb, hb]) (by omega) (by omega)) ?_
  refine Av ?_
  refine Nx ?_
  refine W_sub _ (tk7 7 16 3 2 1 5 17) ?_
  refine W_region ?_
  refine Mv ?_
  refine Mv ?_
  refine Ly (Y_convs Tryz.underlying5 Tryz.underlying3 rfl (wrap_i64 (by omega) (by omega))) ?_
  refine Ly (Y_add rfl rfl (by omega) (by omega)) ?_
  refine Av ?_
  refine L_nil (X_block (X_then ?_))
  refine W_sub _ (tk6 5 16 3 2 1 17) ?_
  refine W_region ?_
  refine Ly (Y_add rfl rfl (by omega) (by omega)) ?_
  refine Mv ?_
  refine L_nil ?_
  refine X_loop (i + 1) (sk4 16 3 2 1 rfl rfl rfl rfl (sk1 5 (lki rfl (by rw [show ((i : Int)).toNat = i by omega, spc_byt hb (by omega)]; rfl)) (tk1 17))) ?_ ?_
  ·exact ⟨by omega, rfl⟩
  (try dsimp only)
  omega
 refine W_exit ?_
 refine X_then_exit (X_then_exit ?_)
 refine X_block_hit ?_
 refine X_then ?_
 refine W_sub _ (tk4 3 2 1 5) ?_
 obtain rfl : i = 512 := by omega
 refine Wr ?_
 refine Mv ?_
 refine L_call (E_call (by kernel_rfl) rfl) (octal_Format _ (csumN b 512) (7 : Int) (by first | omega | rfl | (simp [spc_len hb, sseal_len hb, hb]; done) | (simp <;> omega))) rfl rfl rfl ?_
 rintro _ h5 ⟨s09, rfl, hr010, hx11⟩
 refine Mv ?_
 refine Ly (Y_extract (v := s09) rfl rfl) ?_
 refine Ly (Y_extract (v := .int .i64 (oerr (csumN b 512) (7 : Int))) rfl rfl) ?_
 refine Av ?_
 refine Av ?_
 refine Nx ?_
 refine W_sub _ (tk5 8 3 2 1 5) ?_
 refine Wr ?_
 refine Ly (Y_arrslice Tryz.underlying119 (show _ = some 1 by kernel_rfl) rfl rfl rfl (by omega) (by omega) (by omega)) ?_
 refine Mv ?_
 refine L_mks (M_copysubb Tryz.underlying33 (show _ = some 1 by kernel_rfl) rfl rfl hr010 (kb1.ext hx11) (by omega) (by omega) (by omega) (by simp [spc_len hb])) rfl rfl rfl ?_
 rintro _ h6 ⟨rfl, hx12, hs13, hb14⟩
 have hb15 : Buf h6 h.size (sseal b) := Buf.congr hb14 (by rw [hsq, hs0]; exact spc_seal hb (by rw [← hs0]; exact hs2))
 refine Nx ?_
 refine W_sub _ (tk4 3 2 1 5) ?_
 refine Wr ?_
 refine Ly (Y_ldarr Tryz.underlying119 ((show _ = some 512 by kernel_rfl).trans (congrArg some (by simp [spc_len hb, sseal_len hb, hb]))) rfl hb15) ?_
 refine Mv ?_
 have hc19 := ((kb2.ext hx11).only hx12 (ni_gt (Nat.lt_of_lt_of_le hb2.lt (Nat.le_refl _))))
 refine L_dos (D_starr ((show _ = some 512 by kernel_rfl).trans (congrArg some (by simp [spc_len hb, sseal_len hb, hb]))) rfl rfl hc19 (by simp [spc_len hb, sseal_len hb, hb])) rfl rfl ?_
 rintro h7 ⟨hx16, hs17, hb18⟩
 refine Av ?_
 refine Nx ?_
 refine W_sub _ (tk2 3 2) ?_
 refine W_ret ?_
 refine X_retv2 rfl (RV.arr rfl Tryz.underlying119 (show _ = some 512 by kernel_rfl) (by simp [spc_len hb, sseal_len hb, hb]) hb18) rfl ?_
 have me1 := ((hx.trans hx11).then' hx12 (by simp) (Nat.le_refl _)).then' hx16 (by simp) hx1.size
 exact ⟨by rw [hs0], me1⟩

set_option maxRecDepth 100000 in
theorem checksum_Seal (h : Heap) (v : Value) (b : List UInt8) (hb : Bytes h v b) : Cal Tryz.prog 44 #[v] h (fun v h' => ∃ s0, v = .tuple #[s0, .int .i64 (serr b)] ∧ Bytes h' s0 (sseal b) ∧ Ext h h') := by
 refine Cal_enter (args := [v]) Tryz.func44 rfl rfl rfl (fun σ => ?_)
 refine Wr ?_
 refine Av ?_
 refine Av ?_
 refine L_nil (X_then (W_seq (W_seq (W_region ?_))))
 refine Mv ?_
 refine Ly (Y_len Tryz.underlying33 rfl hb) ?_
 refine Ly (Y_neq rfl rfl) ?_
 refine Nx ?_
 refine W_sub _ (tk4 8 3 2 0) ?_
 refine W_splitd rfl (fun g => ?_) (fun g => ?_)
 ·refine Wr ?_
  refine Av ?_
  refine Av ?_
  refine Nx ?_
  refine W_sub _ (tk3 3 2 0) ?_
  refine W_ret (X_then_ret ?_)
  refine X_ret2 rfl rfl rfl ?_
  refine ⟨_, by unfold serr; rw [if_neg (by omega)], ?_, (Ext.refl _)⟩
  unfold sseal
  rw [if_neg (by omega)]
  exact Bytes.nil _
 refine Ws ?_
 refine W_sub _ (tk3 3 2 0) ?_
 have hl : b.length = 512 := by omega
 have hl2 := sseal_len hl
 refine Wr ?_
 refine Mv ?_
 refine Ly (Y_toarr Tryz.underlying119 rfl hb (by omega)) ?_
 refine Ly (Y_ldtoarr Tryz.underlying119 ((show _ = some 512 by kernel_rfl).trans (congrArg some (by omega))) rfl hb (by omega)) ?_
 refine L_call (E_call (by kernel_rfl) rfl) (checksum_sealed _ b (by first | omega | rfl | (simp [hl2]; done) | (simp <;> omega))) rfl rfl rfl ?_
 rintro _ h1 ⟨rfl, hx1⟩
 refine Mv ?_
 refine Ly (Y_extract (v := arrv (sseal b)) rfl rfl) ?_
 refine Ly (Y_extract (v := .int .i64 (ssum b)) rfl rfl) ?_
 refine L_mks (M_allocarr (l := List.replicate 512 0) (by kernel_rfl)) rfl rfl rfl ?_
 rintro _ h2 ⟨rfl, hx2, hb3⟩
 refine L_dos (D_starr ((show _ = some 512 by kernel_rfl).trans (congrArg some (by simp [hl2]))) rfl rfl hb3 (by simp [hl2])) rfl rfl ?_
 rintro h3 ⟨hx4, hs5, hb6⟩
 refine Av ?_
 refine Nx ?_
 refine W_sub _ (tk3 4 3 2) ?_
 refine Wr ?_
 refine Ly (Y_arrall Tryz.underlying119 (show _ = some 1 by kernel_rfl) (by decide) rfl) ?_
 refine L_call (E_call (by kernel_rfl) rfl) (slices_CloneB _ (.slice (some ⟨h1.size, 0, none⟩) 512 512) (sseal b) (hb6.bytes (by simp [hl2])) (by first | omega | rfl | (simp [hl2]; done) | (simp <;> omega))) rfl rfl rfl ?_
 rintro s07 h4 ⟨_, rfl, hr08, hx9⟩
 refine Av ?_
 refine Av ?_
 refine Nx ?_
 refine W_sub _ (tk2 3 2) ?_
 refine W_ret ?_
 refine X_ret2 rfl rfl rfl ?_
 exact ⟨_, by unfold serr; rw [if_pos hl], hr08.bytes, (((hx1.trans hx2).then' hx4 (by simp) hx1.size).trans hx9)⟩

/-! ### ustar: the fields -/
set_option maxRecDepth 100000 in
theorem field_of (h : Heap) (o : Nat) (w : Nat) (x : Value) (b : List UInt8) (hb : Bytes h x b) (hl : o + w ≤ b.length) (hm : b.length ≤ 140737488355328) : Cal Tryz.prog 42 #[.agg #[.int .i64 ((o : Int)), .int .i64 ((w : Int))], x] h (fun v h' => v = slcut 1 o (o + w) (x) ∧ Ext h h') := by
 refine Cal_enter (args := [.agg #[.int .i64 ((o : Int)), .int .i64 ((w : Int))], x]) Tryz.func42 rfl rfl rfl (fun σ => ?_)
 refine Wr ?_
 refine L_mks (M_box rfl) rfl rfl rfl ?_
 rintro _ h1 ⟨rfl, hn1⟩
 have hk2 : Blk h1 h.size [.int .i64 ((o : Int)), .int .i64 ((w : Int))] := hn1.blk
 refine Av ?_
 refine Nx ?_
 refine W_sub _ (tk3 4 2 1) ?_
 refine Wr ?_
 refine Mv ?_
 refine Ly (Y_fieldAddr (off := 0) (by kernel_rfl) rfl rfl) ?_
 refine Ly (Y_ldblk Tryz.underlying3 rfl rfl hk2 rfl) ?_
 refine Ly (Y_fieldAddr (off := 0) (by kernel_rfl) rfl rfl) ?_
 refine Ly (Y_ldblk Tryz.underlying3 rfl rfl hk2 rfl) ?_
 refine Ly (Y_fieldAddr (off := 1) (by kernel_rfl) rfl rfl) ?_
 refine Ly (Y_ldblk Tryz.underlying3 rfl rfl hk2 rfl) ?_
 refine Ly (Y_add rfl rfl (by omega) (by omega)) ?_
 have hb3 : Bytes h1 (slcut 1 ((o : Int)).toNat ((o : Int) + (w : Int)).toNat x) ((b.take ((o : Int) + (w : Int)).toNat).drop ((o : Int)).toNat) := Bytes.cutb (hb.ext hn1.ext) (by omega) (by omega)
 refine Ly (Y_cut Tryz.underlying33 (show _ = some 1 by kernel_rfl) rfl (hb.ext hn1.ext) rfl rfl (by omega) (by omega) (by omega)) ?_
 refine Av ?_
 refine Nx ?_
 refine W_sub _ (tk1 4) ?_
 refine W_ret ?_
 refine X_ret1 rfl rfl ?_
 exact ⟨by simp only [Int.toNat_natCast, show ((o : Int) + (w : Int)).toNat = o + w by omega], hn1.ext⟩

set_option maxRecDepth 100000 in
theorem field_number (h : Heap) (o : Nat) (w : Nat) (B : Nat) (N : Nat) (L : List UInt8) (hb : Buf h B L) (n : Int) (hN : L.length = N) (hm : N ≤ 140737488355328) (hl : o + w ≤ N) (ho : o < N) (hn : n ≤ 9223372036854775807) : Cal Tryz.prog 43 #[.agg #[.int .i64 ((o : Int)), .int .i64 ((w : Int))], .slice (some ⟨B, 0, none⟩) N N, .int .i64 (n)] h (fun v h' => v = .tuple #[] ∧ Only [B] h h' ∧ Buf h' B (L.take o ++ (octf n w).take (o + w - o) ++ L.drop (o + Nat.min (octf n w).length (o + w - o)))) := by
 refine Cal_enter (args := [.agg #[.int .i64 ((o : Int)), .int .i64 ((w : Int))], .slice (some ⟨B, 0, none⟩) N N, .int .i64 (n)]) Tryz.func43 rfl rfl rfl (fun σ => ?_)
 refine Wr ?_
 refine L_mks (M_box rfl) rfl rfl rfl ?_
 rintro _ h1 ⟨rfl, hn1⟩
 have hk2 : Blk h1 h.size [.int .i64 ((o : Int)), .int .i64 ((w : Int))] := hn1.blk
 refine Nx ?_
 refine W_sub _ (tk3 3 1 2) ?_
 refine Wr ?_
 refine Mv ?_
 refine Ly (Y_fieldAddr (off := 1) (by kernel_rfl) rfl rfl) ?_
 refine Ly (Y_ldblk Tryz.underlying3 rfl rfl hk2 rfl) ?_
 refine L_call (E_call (by kernel_rfl) rfl) (octal_Format _ n (w : Int) (by first | omega | rfl | (omega; done) | (simp <;> omega))) rfl rfl rfl ?_
 rintro _ h2 ⟨s03, rfl, hr04, hx5⟩
 refine Mv ?_
 refine Ly (Y_extract (v := s03) rfl rfl) ?_
 refine Ly (Y_extract (v := .int .i64 (oerr n (w : Int))) rfl rfl) ?_
 refine Av ?_
 refine Av ?_
 refine Nx ?_
 refine W_sub _ (tk3 6 3 1) ?_
 refine W_region ?_
 refine Ly (Y_ldbox (us := [.int .i64 ((o : Int)), .int .i64 ((w : Int))]) Tryz.underlying93 rfl (show _ = some 2 by kernel_rfl) rfl (hk2.ext hx5) rfl) ?_
 refine Mv ?_
 refine L_call (E_call (by kernel_rfl) rfl) (field_of _ o w (.slice (some ⟨B, 0, none⟩) N N) L ((hb.bytes (by first | omega | (simp; omega))).ext (hn1.ext.trans hx5)) (by first | omega | rfl | (omega; done) | (simp <;> omega)) (by first | omega | rfl | (omega; done) | (simp <;> omega))) rfl rfl rfl ?_
 rintro _ h3 ⟨rfl, hx6⟩
 refine Mv ?_
 refine L_mks (M_copysubb Tryz.underlying33 (show _ = some 1 by kernel_rfl) rfl rfl (hr04.ext hx6) (hb.ext ((hn1.ext.trans hx5).trans hx6)) (by omega) (by omega) (by omega) (by omega)) rfl rfl rfl ?_
 rintro _ h4 ⟨rfl, hx7, hs8, hb9⟩
 refine L_nil ?_
 refine X_end ?_
 refine X_end0 rfl ?_
 exact ⟨rfl, (Only.trans (Only.trans (Only.trans (Only.trans (Only.refl _ _) hn1.ext (fun _ hb_ => by cases hb_)) hx5 (fun _ hb_ => by cases hb_)) hx6 (fun _ hb_ => by cases hb_)) hx7 (fun _ hb_ => .inl hb_)), hb9⟩

/-! ### ustar: Check -/
theorem u8_eq {t : Int} (ht : 0 ≤ t ∧ t ≤ 255) {n : Nat} (hn : n < 256) : t.toNat.toUInt8 = n.toUInt8 ↔ t = n := by
  constructor
  · intro h
    have h1 := congrArg UInt8.toNat h
    rw [show (t.toNat.toUInt8).toNat = t.toNat % 256 from rfl, show (n.toUInt8).toNat = n % 256 from rfl, Nat.mod_eq_of_lt (by omega), Nat.mod_eq_of_lt hn] at h1
    omega
  · rintro rfl; simp
theorem known_mem {t : Int} (ht : 0 ≤ t ∧ t ≤ 255) : uknown t = true ↔ t.toNat.toUInt8 ∈ ([48, 49, 50, 53, 120] : List UInt8) := by
  simp only [List.mem_cons, List.not_mem_nil, or_false, uknown, decide_eq_true_eq]
  rw [show (48 : UInt8) = (48 : Nat).toUInt8 from rfl, show (49 : UInt8) = (49 : Nat).toUInt8 from rfl, show (50 : UInt8) = (50 : Nat).toUInt8 from rfl, show (53 : UInt8) = (53 : Nat).toUInt8 from rfl, show (120 : UInt8) = (120 : Nat).toUInt8 from rfl,
    u8_eq ht (by decide), u8_eq ht (by decide), u8_eq ht (by decide), u8_eq ht (by decide), u8_eq ht (by decide)]
  omega
theorem known_idx {t : Int} (ht : 0 ≤ t ∧ t ≤ 255) : (Lib.indexByte [48, 49, 50, 53, 120] t.toNat.toUInt8 < 0) ↔ uknown t = false := by
  have h1 := indexByte_mem [48, 49, 50, 53, 120] t.toNat.toUInt8
  rw [← known_mem ht] at h1
  cases hk : uknown t <;> rw [hk] at h1 <;> simp at h1 ⊢ <;> omega

set_option maxRecDepth 100000 in
theorem ustar_Check (h : Heap) (hG : Glb h) (t : Int) (name : List UInt8) (pre : List UInt8) (link : List UInt8) (mode : Int) (size : Int) (ht : 0 ≤ t ∧ t ≤ 255) : Cal Tryz.prog 41 #[.agg #[.int .u8 (t), str name, str pre, str link, .int .i64 (mode), .int .i64 (size)]] h (fun v h' => v = .int .i64 (ucheck t name pre link mode size) ∧ Ext h h') := by
 refine Cal_enter (args := [.agg #[.int .u8 (t), str name, str pre, str link, .int .i64 (mode), .int .i64 (size)]]) Tryz.func41 rfl rfl rfl (fun σ => ?_)
 refine Wr ?_
 refine L_mks (M_box rfl) rfl rfl rfl ?_
 rintro _ h1 ⟨rfl, hn1⟩
 have hk2 : Blk h1 h.size [.int .u8 (t), str name, str pre, str link, .int .i64 (mode), .int .i64 (size)] := hn1.blk
 refine Av ?_
 refine Nx ?_
 refine W_sub _ (tk2 2 1) ?_
 refine W_seq (W_seq (W_region ?_))
 refine Ly (Y_fieldAddr (off := 0) (by kernel_rfl) rfl rfl) ?_
 refine Ly (Y_ldblk Tryz.underlying5 rfl rfl hk2 rfl) ?_
 refine L_call (E_call (by kernel_rfl) rfl) (strings_IndexByte _ [48, 49, 50, 53, 120] t) rfl rfl rfl ?_
 rintro _ h1 ⟨rfl, rfl⟩
 refine Ly (Y_lss rfl rfl) ?_
 refine Nx ?_
 refine W_sub _ (tk3 10 2 1) ?_
 refine W_splitd rfl (fun k => ?_) (fun k => ?_)
 ·refine Wr ?_
  refine Av ?_
  refine Nx ?_
  refine W_sub _ (tk2 2 1) ?_
  refine W_ret (X_then_ret ?_)
  refine X_ret1 rfl rfl ?_
  exact ⟨by unfold ucheck; rw [if_pos ((known_idx ht).1 k)], hn1.ext⟩
 refine Ws ?_
 refine W_sub _ (tk2 2 1) ?_
 have k' : ¬ uknown t = false := fun h9 => k ((known_idx ht).2 h9)
 refine W_seq (W_seq (W_region ?_))
 refine Ly (Y_fieldAddr (off := 1) (by kernel_rfl) rfl rfl) ?_
 refine Ly (Y_ldblk Tryz.underlying9 rfl rfl hk2 rfl) ?_
 refine Ly (Y_ldclsA (us := [.int .i64 0, .int .i64 100]) Tryz.underlying93 rfl (show _ = some 2 by kernel_rfl) rfl ((hG.ext hn1.ext)).g0 rfl) ?_
 refine Ly (Y_build (v := .agg #[str name, .int .i64 0, .int .i64 100]) (pv := [(0, str name), (1, .agg #[.int .i64 0, .int .i64 100])]) (evp (is := [0, 1]) (os := [.tmp 12, .tmp 13]) (vs := [str name, .agg #[.int .i64 0, .int .i64 100]]) rfl rfl) (fun _ => by kernel_rfl)) ?_
 refine Ly (Y_fieldAddr (off := 3) (by kernel_rfl) rfl rfl) ?_
 refine Ly (Y_ldblk Tryz.underlying9 rfl rfl hk2 rfl) ?_
 refine Ly (Y_ldclsA (us := [.int .i64 157, .int .i64 100]) Tryz.underlying93 rfl (show _ = some 2 by kernel_rfl) rfl ((hG.ext hn1.ext)).g7 rfl) ?_
 refine Ly (Y_build (v := .agg #[str link, .int .i64 157, .int .i64 100]) (pv := [(0, str link), (1, .agg #[.int .i64 157, .int .i64 100])]) (evp (is := [0, 1]) (os := [.tmp 16, .tmp 17]) (vs := [str link, .agg #[.int .i64 157, .int .i64 100]]) rfl rfl) (fun _ => by kernel_rfl)) ?_
 refine Ly (Y_fieldAddr (off := 2) (by kernel_rfl) rfl rfl) ?_
 refine Ly (Y_ldblk Tryz.underlying9 rfl rfl hk2 rfl) ?_
 refine Ly (Y_ldclsA (us := [.int .i64 345, .int .i64 155]) Tryz.underlying93 rfl (show _ = some 2 by kernel_rfl) rfl ((hG.ext hn1.ext)).g11 rfl) ?_
 refine Ly (Y_build (v := .agg #[str pre, .int .i64 345, .int .i64 155]) (pv := [(0, str pre), (1, .agg #[.int .i64 345, .int .i64 155])]) (evp (is := [0, 1]) (os := [.tmp 20, .tmp 21]) (vs := [str pre, .agg #[.int .i64 345, .int .i64 155]]) rfl rfl) (fun _ => by kernel_rfl)) ?_
 refine L_mks (M_buildSlice (cells := [str name, .int .i64 0, .int .i64 100, str link, .int .i64 157, .int .i64 100, str pre, .int .i64 345, .int .i64 155]) (pv := [(0, .agg #[str name, .int .i64 0, .int .i64 100]), (1, .agg #[str link, .int .i64 157, .int .i64 100]), (2, .agg #[str pre, .int .i64 345, .int .i64 155])]) (E := 115) (evp (is := [0, 1, 2]) (os := [.tmp 14, .tmp 18, .tmp 22]) (vs := [.agg #[str name, .int .i64 0, .int .i64 100], .agg #[str link, .int .i64 157, .int .i64 100], .agg #[str pre, .int .i64 345, .int .i64 155]]) rfl rfl) (fun _ => by kernel_rfl)) rfl rfl rfl ?_
 rintro _ h2 ⟨rfl, hn3⟩
 have hk4 : Blk h2 h1.size [str name, .int .i64 0, .int .i64 100, str link, .int .i64 157, .int .i64 100, str pre, .int .i64 345, .int .i64 155] := hn3.blk
 refine Ly (Y_lensl Tryz.underlying116 rfl) ?_
 refine Mv ?_
 refine Nx ?_
 refine W_sub _ (tk5 25 24 23 2 1) ?_
 refine W_block ?_
 refine W_rounds 3 ?_
 refine Wr ?_
 refine Ly (Y_lss rfl rfl) ?_
 refine L_nil (X_then (W_seq ?_))
 refine W_known true rfl (by first | rfl | decide | simp) ?_
 refine W_skip (X_then (W_seq (W_block (W_seq (W_region ?_)))))
 refine Ly (Y_idxlit (off := 0) Tryz.underlying116 (show _ = some 3 by kernel_rfl) rfl rfl (by decide) (by decide) rfl) ?_
 refine Ly (Y_ldbox (us := [str name, .int .i64 0, .int .i64 100]) Tryz.underlying115 rfl (show _ = some 3 by kernel_rfl) rfl hk4 rfl) ?_
 refine L_mks (M_alloc (u := .agg #[str [], .int .i64 0, .int .i64 0]) (by kernel_rfl)) rfl rfl rfl ?_
 rintro _ h3 ⟨rfl, hn5⟩
 have hk6 : Blk h3 h2.size [str [], .int .i64 0, .int .i64 0] := hn5.blk
 refine L_dos (D_store (us := [str name, .int .i64 0, .int .i64 100]) (show _ = some 3 by kernel_rfl) rfl rfl rfl (by simp [Value.oneCell']) hk6 (by simp)) rfl rfl ?_
 rintro h4 hp7
 have hk8 : Blk h4 h2.size [str name, .int .i64 0, .int .i64 100] := hp7.blk
 refine L_nil (X_then (W_seq (W_region ?_)))
 refine Ly (Y_fieldAddr (off := 0) (by kernel_rfl) rfl rfl) ?_
 refine Ly (Y_ldblk Tryz.underlying9 rfl rfl hk8 rfl) ?_
 refine Ly (Y_fieldAddr (off := 1) (by kernel_rfl) rfl rfl) ?_
 refine Ly (Y_fieldAddr (off := 1) (by kernel_rfl) rfl rfl) ?_
 refine Ly (Y_ldblk Tryz.underlying3 rfl rfl hk8 rfl) ?_
 refine L_call (E_call (by kernel_rfl) rfl) (cstring_Format _ name (100 : Int)) rfl rfl rfl ?_
 rintro _ h5 ⟨s09, rfl, hr010, hx11⟩
 refine Mv ?_
 refine Ly (Y_extract (v := s09) rfl rfl) ?_
 refine Ly (Y_extract (v := .int .i64 (cerr name (100 : Int))) rfl rfl) ?_
 refine Av ?_
 refine Av ?_
 refine Nx ?_
 refine W_sub _ (sk3 6 37 36 rfl rfl rfl (sk8 29 35 34 33 32 31 30 4 rfl rfl rfl rfl rfl rfl rfl rfl (tk8 28 27 26 25 24 23 2 1))) ?_
 refine Wr ?_
 refine Mv ?_
 refine Ly (Y_neq rfl rfl) ?_
 refine Nx ?_
 refine W_splitd rfl (fun e1 => ?_) (fun e1 => ?_)
 ·refine Wr ?_
  refine Mv ?_
  refine Av ?_
  refine L_nil (X_then (W_ret (X_block_ret (X_then_ret (X_then_ret (X_block_ret (X_then_ret ?_)))))))
  refine X_ret1 rfl rfl ?_
  have me1 := ((hn1.ext.trans hn3.ext).trans hn5.ext).then' hp7.only (by simp) (Nat.le_trans hn1.ext.size hn3.ext.size)
  exact ⟨by unfold ucheck; rw [if_neg k', if_pos e1], (me1.trans hx11)⟩
 refine W_skip (X_block (X_then (W_region ?_)))
 refine Ly (Y_addl (r := 1) rfl rfl (by decide) (by decide) (by decide)) ?_
 refine Mv ?_
 refine L_nil ?_
 refine X_round ?_
 refine Wr ?_
 refine Ly (Y_lss rfl rfl) ?_
 refine L_nil (X_then (W_seq ?_))
 refine W_known true rfl (by first | rfl | decide | simp) ?_
 refine W_skip (X_then (W_seq (W_block (W_seq (W_region ?_)))))
 refine Ly (Y_idxlit (off := 3) Tryz.underlying116 (show _ = some 3 by kernel_rfl) rfl rfl (by decide) (by decide) rfl) ?_
 have me2 := (hn5.ext.then' hp7.only (by simp) (Nat.le_refl _)).trans hx11
 refine Ly (Y_ldbox (us := [str link, .int .i64 157, .int .i64 100]) Tryz.underlying115 rfl (show _ = some 3 by kernel_rfl) rfl (hk4.ext me2) rfl) ?_
 refine L_mks (M_alloc (u := .agg #[str [], .int .i64 0, .int .i64 0]) (by kernel_rfl)) rfl rfl rfl ?_
 rintro _ h6 ⟨rfl, hn12⟩
 have hk13 : Blk h6 h5.size [str [], .int .i64 0, .int .i64 0] := hn12.blk
 refine L_dos (D_store (us := [str link, .int .i64 157, .int .i64 100]) (show _ = some 3 by kernel_rfl) rfl rfl rfl (by simp [Value.oneCell']) hk13 (by simp)) rfl rfl ?_
 rintro h7 hp14
 have hk15 : Blk h7 h5.size [str link, .int .i64 157, .int .i64 100] := hp14.blk
 refine L_nil (X_then (W_seq (W_region ?_)))
 refine Ly (Y_fieldAddr (off := 0) (by kernel_rfl) rfl rfl) ?_
 refine Ly (Y_ldblk Tryz.underlying9 rfl rfl hk15 rfl) ?_
 refine Ly (Y_fieldAddr (off := 1) (by kernel_rfl) rfl rfl) ?_
 refine Ly (Y_fieldAddr (off := 1) (by kernel_rfl) rfl rfl) ?_
 refine Ly (Y_ldblk Tryz.underlying3 rfl rfl hk15 rfl) ?_
 refine L_call (E_call (by kernel_rfl) rfl) (cstring_Format _ link (100 : Int)) rfl rfl rfl ?_
 rintro _ h8 ⟨s016, rfl, hr017, hx18⟩
 refine Mv ?_
 refine Ly (Y_extract (v := s016) rfl rfl) ?_
 refine Ly (Y_extract (v := .int .i64 (cerr link (100 : Int))) rfl rfl) ?_
 refine Av ?_
 refine Av ?_
 refine Nx ?_
 refine W_sub _ (sk6 6 37 36 29 35 34 rfl rfl rfl rfl rfl rfl (sk8 33 32 31 30 4 28 27 26 rfl rfl rfl rfl rfl rfl rfl rfl (tk8 25 41 39 38 24 23 2 1))) ?_
 refine Wr ?_
 refine Mv ?_
 refine Ly (Y_neq rfl rfl) ?_
 refine Nx ?_
 refine W_splitd rfl (fun e2 => ?_) (fun e2 => ?_)
 ·refine Wr ?_
  refine Mv ?_
  refine Av ?_
  refine L_nil (X_then (W_ret (X_block_ret (X_then_ret (X_then_ret (X_block_ret (X_then_ret ?_)))))))
  refine X_ret1 rfl rfl ?_
  have me3 := Nat.le_trans (Nat.le_trans hn1.ext.size hn3.ext.size) hn5.ext.size
  have me4 := ((hn1.ext.trans hn3.ext).trans hn5.ext).then' hp7.only (by simp) (Nat.le_trans hn1.ext.size hn3.ext.size)
  have me5 := ((me4.trans hx11).trans hn12.ext).then' hp14.only (by simp) (Nat.le_trans (Nat.le_trans me3 hp7.only.size) hx11.size)
  exact ⟨by unfold ucheck; rw [if_neg k', if_neg e1, if_pos e2], (me5.trans hx18)⟩
 refine W_skip (X_block (X_then (W_region ?_)))
 refine Ly (Y_addl (r := 2) rfl rfl (by decide) (by decide) (by decide)) ?_
 refine Mv ?_
 refine L_nil ?_
 refine X_round ?_
 refine Wr ?_
 refine Ly (Y_lss rfl rfl) ?_
 refine L_nil (X_then (W_seq ?_))
 refine W_known true rfl (by first | rfl | decide | simp) ?_
 refine W_skip (X_then (W_seq (W_block (W_seq (W_region ?_)))))
 refine Ly (Y_idxlit (off := 6) Tryz.underlying116 (show _ = some 3 by kernel_rfl) rfl rfl (by decide) (by decide) rfl) ?_
 have me6 := Nat.le_trans (Nat.le_trans hn5.ext.size hp7.only.size) hx11.size
 have me7 := ((me2.trans hn12.ext).then' hp14.only (by simp) me6).trans hx18
 refine Ly (Y_ldbox (us := [str pre, .int .i64 345, .int .i64 155]) Tryz.underlying115 rfl (show _ = some 3 by kernel_rfl) rfl (hk4.ext me7) rfl) ?_
 refine L_mks (M_alloc (u := .agg #[str [], .int .i64 0, .int .i64 0]) (by kernel_rfl)) rfl rfl rfl ?_
 rintro _ h9 ⟨rfl, hn19⟩
 have hk20 : Blk h9 h8.size [str [], .int .i64 0, .int .i64 0] := hn19.blk
 refine L_dos (D_store (us := [str pre, .int .i64 345, .int .i64 155]) (show _ = some 3 by kernel_rfl) rfl rfl rfl (by simp [Value.oneCell']) hk20 (by simp)) rfl rfl ?_
 rintro h10 hp21
 have hk22 : Blk h10 h8.size [str pre, .int .i64 345, .int .i64 155] := hp21.blk
 refine L_nil (X_then (W_seq (W_region ?_)))
 refine Ly (Y_fieldAddr (off := 0) (by kernel_rfl) rfl rfl) ?_
 refine Ly (Y_ldblk Tryz.underlying9 rfl rfl hk22 rfl) ?_
 refine Ly (Y_fieldAddr (off := 1) (by kernel_rfl) rfl rfl) ?_
 refine Ly (Y_fieldAddr (off := 1) (by kernel_rfl) rfl rfl) ?_
 refine Ly (Y_ldblk Tryz.underlying3 rfl rfl hk22 rfl) ?_
 refine L_call (E_call (by kernel_rfl) rfl) (cstring_Format _ pre (155 : Int)) rfl rfl rfl ?_
 rintro _ h11 ⟨s023, rfl, hr024, hx25⟩
 refine Mv ?_
 refine Ly (Y_extract (v := s023) rfl rfl) ?_
 refine Ly (Y_extract (v := .int .i64 (cerr pre (155 : Int))) rfl rfl) ?_
 refine Av ?_
 refine Av ?_
 refine Nx ?_
 refine W_sub _ (sk6 6 37 36 29 35 34 rfl rfl rfl rfl rfl rfl (sk8 33 32 31 30 4 28 27 26 rfl rfl rfl rfl rfl rfl rfl rfl (tk8 25 41 39 38 24 23 2 1))) ?_
 refine Wr ?_
 refine Mv ?_
 refine Ly (Y_neq rfl rfl) ?_
 refine Nx ?_
 refine W_splitd rfl (fun e3 => ?_) (fun e3 => ?_)
 ·refine Wr ?_
  refine Mv ?_
  refine Av ?_
  refine L_nil (X_then (W_ret (X_block_ret (X_then_ret (X_then_ret (X_block_ret (X_then_ret ?_)))))))
  refine X_ret1 rfl rfl ?_
  have me8 := Nat.le_trans (Nat.le_trans hn1.ext.size hn3.ext.size) hn5.ext.size
  have me9 := Nat.le_trans (Nat.le_trans (Nat.le_trans me8 hp7.only.size) hx11.size) hn12.ext.size
  have me10 := ((hn1.ext.trans hn3.ext).trans hn5.ext).then' hp7.only (by simp) (Nat.le_trans hn1.ext.size hn3.ext.size)
  have me11 := ((me10.trans hx11).trans hn12.ext).then' hp14.only (by simp) (Nat.le_trans (Nat.le_trans me8 hp7.only.size) hx11.size)
  have me12 := ((me11.trans hx18).trans hn19.ext).then' hp21.only (by simp) (Nat.le_trans (Nat.le_trans me9 hp14.only.size) hx18.size)
  exact ⟨by unfold ucheck; rw [if_neg k', if_neg e1, if_neg e2, if_pos e3], (me12.trans hx25)⟩
 refine W_skip (X_block (X_then (W_region ?_)))
 refine Ly (Y_addl (r := 3) rfl rfl (by decide) (by decide) (by decide)) ?_
 refine Mv ?_
 refine L_nil ?_
 refine X_round ?_
 refine Wr ?_
 refine Ly (Y_lss rfl rfl) ?_
 refine L_nil (X_then (W_seq ?_))
 refine W_known false rfl (by first | rfl | decide | simp) ?_
 refine W_exit ?_
 refine X_then_exit (X_then_exit ?_)
 refine X_block_hit ?_
 refine X_then ?_
 refine W_sub _ (tk2 2 1) ?_
 refine W_seq (W_block ?_)
 refine W_cut (S := Unit) (fun _ => [(42, .bool (decide ((mode < 0) ∨ (4095 < mode)))), (2, .int .i64 0), (1, .pointer (some ⟨h.size, 0, none⟩))]) (fun _ h' => h' = h11) ?_ ?_
 ·refine W_region ?_
  refine Ly (Y_fieldAddr (off := 4) (by kernel_rfl) rfl rfl) ?_
  have me13 := Nat.le_trans (Nat.le_trans hn3.ext.size hn5.ext.size) hp7.only.size
  have me14 := Nat.le_trans (Nat.le_trans (Nat.le_trans me13 hx11.size) hn12.ext.size) hp14.only.size
  have me15 := (hn3.ext.trans hn5.ext).then' hp7.only (by simp) hn3.ext.size
  have me16 := ((me15.trans hx11).trans hn12.ext).then' hp14.only (by simp) (Nat.le_trans me13 hx11.size)
  have me17 := ((me16.trans hx18).trans hn19.ext).then' hp21.only (by simp) (Nat.le_trans me14 hx18.size)
  refine Ly (Y_ldblk Tryz.underlying3 rfl rfl (hk2.ext (me17.trans hx25)) rfl) ?_
  refine Ly (Y_lss rfl rfl) ?_
  refine Mv ?_
  refine L_splitd (d := 46) rfl (fun c26 => ?_) (fun c26 => ?_)
  ·refine Skp ?_
   refine Skp ?_
   refine Skp ?_
   refine Ly (Y_pick_t rfl rfl) ?_
   refine Av ?_
   refine L_nil ?_
   exact X_cut () (sk1 42 (lkb rfl (by first | (simp only [eq_true c26, SB]; done) | (simp only [eq_true c26, SB]; rfl))) (sk1 2 rfl (tk1 1))) rfl
  refine Ly (Y_fieldAddr (off := 4) (by kernel_rfl) rfl rfl) ?_
  refine Ly (Y_ldblk Tryz.underlying3 rfl rfl (hk2.ext (me17.trans hx25)) rfl) ?_
  refine Ly (Y_gtr rfl rfl) ?_
  refine Ly (Y_pick_f rfl rfl) ?_
  refine Av ?_
  refine L_nil ?_
  exact X_cut () (sk1 42 (lkb rfl (by first | (simp only [eq_false c26, SB]; done) | (simp only [eq_false c26, SB]; rfl))) (sk1 2 rfl (tk1 1))) rfl
 rintro _ h11 rfl
 show W _ _ _ _ _ [(42, .bool (decide ((mode < 0) ∨ (4095 < mode)))), (2, .int .i64 0), (1, .pointer (some ⟨h.size, 0, none⟩))] _
 refine W_splitd rfl (fun m => ?_) (fun m => ?_)
 ·refine Wr ?_
  refine Av ?_
  refine Nx ?_
  refine W_sub _ (tk1 2) ?_
  refine W_ret (X_block_ret (X_then_ret ?_))
  refine X_ret1 rfl rfl ?_
  have me18 := Nat.le_trans (Nat.le_trans hn1.ext.size hn3.ext.size) hn5.ext.size
  have me19 := Nat.le_trans (Nat.le_trans (Nat.le_trans me18 hp7.only.size) hx11.size) hn12.ext.size
  have me20 := ((hn1.ext.trans hn3.ext).trans hn5.ext).then' hp7.only (by simp) (Nat.le_trans hn1.ext.size hn3.ext.size)
  have me21 := ((me20.trans hx11).trans hn12.ext).then' hp14.only (by simp) (Nat.le_trans (Nat.le_trans me18 hp7.only.size) hx11.size)
  have me22 := ((me21.trans hx18).trans hn19.ext).then' hp21.only (by simp) (Nat.le_trans (Nat.le_trans me19 hp14.only.size) hx18.size)
  exact ⟨by unfold ucheck; rw [if_neg k', if_neg e1, if_neg e2, if_neg e3, if_pos m], (me22.trans hx25)⟩
 refine W_cut (S := Unit) (fun _ => [(51, .bool (decide ((size < 0) ∨ (8589934591 < size)))), (2, .int .i64 0)]) (fun _ h' => h' = h11) ?_ ?_
 ·refine W_region ?_
  refine Ly (Y_fieldAddr (off := 5) (by kernel_rfl) rfl rfl) ?_
  have me23 := Nat.le_trans (Nat.le_trans hn3.ext.size hn5.ext.size) hp7.only.size
  have me24 := Nat.le_trans (Nat.le_trans (Nat.le_trans me23 hx11.size) hn12.ext.size) hp14.only.size
  have me25 := (hn3.ext.trans hn5.ext).then' hp7.only (by simp) hn3.ext.size
  have me26 := ((me25.trans hx11).trans hn12.ext).then' hp14.only (by simp) (Nat.le_trans me23 hx11.size)
  have me27 := ((me26.trans hx18).trans hn19.ext).then' hp21.only (by simp) (Nat.le_trans me24 hx18.size)
  refine Ly (Y_ldblk Tryz.underlying2 rfl rfl (hk2.ext (me27.trans hx25)) rfl) ?_
  refine Ly (Y_lss rfl rfl) ?_
  refine Mv ?_
  refine L_splitd (d := 55) rfl (fun c27 => ?_) (fun c27 => ?_)
  ·refine Skp ?_
   refine Skp ?_
   refine Skp ?_
   refine Ly (Y_pick_t rfl rfl) ?_
   refine Av ?_
   refine L_nil ?_
   exact X_cut () (sk1 51 (lkb rfl (by first | (simp only [eq_true c27, SB]; done) | (simp only [eq_true c27, SB]; rfl))) (tk1 2)) rfl
  refine Ly (Y_fieldAddr (off := 5) (by kernel_rfl) rfl rfl) ?_
  refine Ly (Y_ldblk Tryz.underlying2 rfl rfl (hk2.ext (me27.trans hx25)) rfl) ?_
  refine Ly (Y_gtr rfl rfl) ?_
  refine Ly (Y_pick_f rfl rfl) ?_
  refine Av ?_
  refine L_nil ?_
  exact X_cut () (sk1 51 (lkb rfl (by first | (simp only [eq_false c27, SB]; done) | (simp only [eq_false c27, SB]; rfl))) (tk1 2)) rfl
 rintro _ h11 rfl
 show W _ _ _ _ _ [(51, .bool (decide ((size < 0) ∨ (8589934591 < size)))), (2, .int .i64 0)] _
 refine W_splitd rfl (fun z => ?_) (fun z => ?_)
 ·refine Wr ?_
  refine Av ?_
  refine Nx ?_
  refine W_sub _ (tk1 2) ?_
  refine W_ret (X_block_ret (X_then_ret ?_))
  refine X_ret1 rfl rfl ?_
  have me28 := Nat.le_trans (Nat.le_trans hn1.ext.size hn3.ext.size) hn5.ext.size
  have me29 := Nat.le_trans (Nat.le_trans (Nat.le_trans me28 hp7.only.size) hx11.size) hn12.ext.size
  have me30 := ((hn1.ext.trans hn3.ext).trans hn5.ext).then' hp7.only (by simp) (Nat.le_trans hn1.ext.size hn3.ext.size)
  have me31 := ((me30.trans hx11).trans hn12.ext).then' hp14.only (by simp) (Nat.le_trans (Nat.le_trans me28 hp7.only.size) hx11.size)
  have me32 := ((me31.trans hx18).trans hn19.ext).then' hp21.only (by simp) (Nat.le_trans (Nat.le_trans me29 hp14.only.size) hx18.size)
  exact ⟨by unfold ucheck; rw [if_neg k', if_neg e1, if_neg e2, if_neg e3, if_neg m, if_pos z], (me32.trans hx25)⟩
 refine W_skip (X_block (X_then ?_))
 refine W_sub _ (tk1 2) ?_
 refine Wr ?_
 refine Av ?_
 refine L_nil (X_then (W_ret ?_))
 refine X_ret1 rfl rfl ?_
 have me33 := Nat.le_trans (Nat.le_trans hn1.ext.size hn3.ext.size) hn5.ext.size
 have me34 := Nat.le_trans (Nat.le_trans (Nat.le_trans me33 hp7.only.size) hx11.size) hn12.ext.size
 have me35 := ((hn1.ext.trans hn3.ext).trans hn5.ext).then' hp7.only (by simp) (Nat.le_trans hn1.ext.size hn3.ext.size)
 have me36 := ((me35.trans hx11).trans hn12.ext).then' hp14.only (by simp) (Nat.le_trans (Nat.le_trans me33 hp7.only.size) hx11.size)
 have me37 := ((me36.trans hx18).trans hn19.ext).then' hp21.only (by simp) (Nat.le_trans (Nat.le_trans me34 hp14.only.size) hx18.size)
 exact ⟨by unfold ucheck; rw [if_neg k', if_neg e1, if_neg e2, if_neg e3, if_neg m, if_neg z], (me37.trans hx25)⟩

end Go.Xp

/- Layer 7: the program's Encode. -/
set_option linter.unusedSimpArgs false
set_option linter.unusedVariables false
namespace Go.Xp
open Go.Proofs

def zr (w : Nat) : List UInt8 := List.replicate w 0
theorem zr_len (w : Nat) : (zr w).length = w := by simp [zr]
theorem fl_splice {Fs : List (List UInt8)} {i o w : Nat} {src F : List UInt8} (hi : Fs[i]? = some (zr w)) (ho : ((Fs.take i).flatten).length = o) (hs : src.length ≤ w) (hF : src ++ List.replicate (w - src.length) 0 = F) :
    Fs.flatten.take o ++ src.take w ++ Fs.flatten.drop (o + Nat.min src.length w) = (Fs.set i F).flatten := by
  have hlt : i < Fs.length := (List.getElem?_eq_some_iff.1 hi).1
  have hv : Fs[i] = zr w := (List.getElem?_eq_some_iff.1 hi).2
  have e1 : Fs = Fs.take i ++ zr w :: Fs.drop (i + 1) := by
    rw [← hv, List.getElem_cons_drop, List.take_append_drop]
  have e2 : Fs.flatten = (Fs.take i).flatten ++ (zr w ++ (Fs.drop (i + 1)).flatten) := by
    conv => lhs; rw [e1]
    simp
  have e3 : (Fs.set i F).flatten = (Fs.take i).flatten ++ (F ++ (Fs.drop (i + 1)).flatten) := by
    rw [List.set_eq_take_append_cons_drop, if_pos hlt]
    simp
  rw [e2, e3, ← ho, List.take_left' rfl, ← hF, List.take_of_length_le hs, show Nat.min src.length w = src.length from Nat.min_eq_left hs, List.drop_append, List.drop_append]
  simp [zr, zr_len, hs]
def UB (n m u g s t ty l mg mj mn p : List UInt8) : List (List UInt8) := [n, m, u, g, s, t, zr 8, ty, l, mg, zr 64, mj, mn, p, zr 12]
theorem cf_le {s : List UInt8} {w : Nat} (h : cerr s (w : Int) = 0) : s.length ≤ w := by
  unfold cerr at h
  split at h
  · cases h
  · split at h
    · cases h
    · split at h
      · cases h
      · omega
theorem cf_ok {s : List UInt8} {w : Nat} (h : cerr s (w : Int) = 0) : s ++ List.replicate (w - s.length) 0 = cfmt s (w : Int) := by
  unfold cfmt; rw [if_pos h]; simp
theorem cf_len {s : List UInt8} {w : Nat} (h : cerr s (w : Int) = 0) : (cfmt s (w : Int)).length = w := by
  rw [← cf_ok h]; have := cf_le h; simp; omega
theorem of_ok {s : List UInt8} {w : Nat} (h : s.length = w) : s ++ List.replicate (w - s.length) 0 = s := by rw [h]; simp
theorem of_len {n : Int} {w : Nat} (h : oerr n (w : Int) = 0) (h0 : 1 ≤ w) : (octf n (w : Int)).length = w := by
  unfold octf; rw [if_pos h]; simp [octD_length]; omega
theorem ucheck_ok {t : Int} {name pre link : List UInt8} {mode size : Int} (h : ucheck t name pre link mode size = 0) :
    uknown t = true ∧ cerr name 100 = 0 ∧ cerr link 100 = 0 ∧ cerr pre 155 = 0 ∧ (0 ≤ mode ∧ mode ≤ 4095) ∧ (0 ≤ size ∧ size ≤ 8589934591) := by
  unfold ucheck at h
  split at h
  · cases h
  · split at h
    · exact absurd h ‹_›
    · split at h
      · exact absurd h ‹_›
      · split at h
        · exact absurd h ‹_›
        · split at h
          · cases h
          · split at h
            · cases h
            · refine ⟨by simpa using ‹¬ uknown t = false›, Decidable.not_not.1 ‹_›, Decidable.not_not.1 ‹_›, Decidable.not_not.1 ‹_›, by omega, by omega⟩
theorem oerr_mode {n : Int} (h : 0 ≤ n ∧ n ≤ 4095) : oerr n 8 = 0 := by
  unfold oerr omax; rw [if_neg (by omega), if_neg (by simp; omega)]
theorem oerr_size {n : Int} (h : 0 ≤ n ∧ n ≤ 8589934591) : oerr n 12 = 0 := by
  unfold oerr omax; rw [if_neg (by omega), if_neg (by simp; omega)]

/-! ### The checksum field does not matter -/
theorem csumN_congr {a b : List UInt8} (h : ∀ k, ¬ (148 ≤ k ∧ k < 156) → byt a k = byt b k) : ∀ i, csumN a i = csumN b i
  | 0 => rfl
  | i + 1 => by
    unfold csumN
    rw [csumN_congr h i]
    split
    · rfl
    · rw [h i ‹_›]
theorem sseal_chk {A X Y B : List UInt8} (hA : A.length = 148) (hX : X.length = 8) (hY : Y.length = 8) (hB : B.length = 356) : sseal (A ++ (X ++ B)) = sseal (A ++ (Y ++ B)) := by
  have hb : ∀ k, ¬ (148 ≤ k ∧ k < 156) → byt (A ++ (X ++ B)) k = byt (A ++ (Y ++ B)) k := by
    intro k hk
    unfold byt
    congr 2
    simp only [List.getD_eq_getElem?_getD]
    congr 1
    by_cases h1 : k < 148
    · rw [List.getElem?_append_left (by omega), List.getElem?_append_left (by omega)]
    · rw [List.getElem?_append_right (by omega), List.getElem?_append_right (by omega), List.getElem?_append_right (by omega), List.getElem?_append_right (by omega), hX, hY]
  unfold sseal ssum
  rw [if_pos (by simp only [List.length_append, hA, hX, hY, hB]), if_pos (by simp only [List.length_append, hA, hX, hY, hB]), if_pos (by simp only [List.length_append, hA, hX, hY, hB]), if_pos (by simp only [List.length_append, hA, hX, hY, hB]), csumN_congr hb]
  have d1 : (A ++ (X ++ B)).drop 156 = B := by rw [← List.append_assoc]; exact List.drop_left' (by simp [hA, hX])
  have d2 : (A ++ (Y ++ B)).drop 156 = B := by rw [← List.append_assoc]; exact List.drop_left' (by simp [hA, hY])
  rw [List.take_left' hA, List.take_left' hA, d1, d2]
theorem uenc_ub {t : Int} {name pre link : List UInt8} {mode size : Int} (h : ucheck t name pre link mode size = 0) :
    sseal (UB (cfmt name 100) (octf mode 8) (octf 0 8) (octf 0 8) (octf size 12) (octf 0 12) [t.toNat.toUInt8] (cfmt link 100) [117, 115, 116, 97, 114, 0, 48, 48] (octf 0 8) (octf 0 8) (cfmt pre 155)).flatten = uenc t name pre link mode size := by
  obtain ⟨-, c1, c2, c3, hm, hs⟩ := ucheck_ok h
  have k1 := cf_len (w := 100) c1
  have k2 := cf_len (w := 100) c2
  have k3 := cf_len (w := 155) c3
  have l1 := of_len (w := 8) (oerr_mode hm) (by decide)
  have l2 := of_len (w := 12) (oerr_size hs) (by decide)
  have l3 := of_len (n := 0) (w := 8) (by decide) (by decide)
  have l4 := of_len (n := 0) (w := 12) (by decide) (by decide)
  unfold uenc
  rw [if_pos h]
  have z1 : cfmt [] 32 ++ cfmt [] 32 = zr 64 := by decide +kernel
  have z2 : cfmt [] 12 = zr 12 := by decide +kernel
  have e1 : ∀ X : List UInt8, cfmt name 100 ++ (octf mode 8 ++ (octf 0 8 ++ (octf 0 8 ++ (octf size 12 ++ (octf 0 12 ++ (X ++ ([t.toNat.toUInt8] ++ (cfmt link 100 ++ ([117, 115, 116, 97, 114, 0, 48, 48] ++ (zr 64 ++ (octf 0 8 ++ (octf 0 8 ++ (cfmt pre 155 ++ zr 12)))))))))))))
      = (cfmt name 100 ++ (octf mode 8 ++ (octf 0 8 ++ (octf 0 8 ++ (octf size 12 ++ octf 0 12))))) ++ (X ++ ([t.toNat.toUInt8] ++ (cfmt link 100 ++ ([117, 115, 116, 97, 114, 0, 48, 48] ++ (zr 64 ++ (octf 0 8 ++ (octf 0 8 ++ (cfmt pre 155 ++ zr 12)))))))) := by
    intro X; simp only [List.append_assoc]
  have e2 : ubody t name pre link mode size = cfmt name 100 ++ (octf mode 8 ++ (octf 0 8 ++ (octf 0 8 ++ (octf size 12 ++ (octf 0 12 ++ ([32, 32, 32, 32, 32, 32, 32, 32] ++ ([t.toNat.toUInt8] ++ (cfmt link 100 ++ ([117, 115, 116, 97, 114, 0, 48, 48] ++ (zr 64 ++ (octf 0 8 ++ (octf 0 8 ++ (cfmt pre 155 ++ zr 12))))))))))))) := by
    rw [← z1, ← z2]; unfold ubody; simp only [List.append_assoc]
  have e3 : (UB (cfmt name 100) (octf mode 8) (octf 0 8) (octf 0 8) (octf size 12) (octf 0 12) [t.toNat.toUInt8] (cfmt link 100) [117, 115, 116, 97, 114, 0, 48, 48] (octf 0 8) (octf 0 8) (cfmt pre 155)).flatten = cfmt name 100 ++ (octf mode 8 ++ (octf 0 8 ++ (octf 0 8 ++ (octf size 12 ++ (octf 0 12 ++ (zr 8 ++ ([t.toNat.toUInt8] ++ (cfmt link 100 ++ ([117, 115, 116, 97, 114, 0, 48, 48] ++ (zr 64 ++ (octf 0 8 ++ (octf 0 8 ++ (cfmt pre 155 ++ zr 12))))))))))))) := by
    unfold UB; simp only [List.flatten_cons, List.flatten_nil, List.append_nil]
  rw [e2, e3, e1, e1]
  have q1 : (cfmt name 100).length = 100 := k1
  have q2 : (cfmt link 100).length = 100 := k2
  have q3 : (cfmt pre 155).length = 155 := k3
  have q4 : (octf mode 8).length = 8 := l1
  have q5 : (octf size 12).length = 12 := l2
  have q6 : (octf 0 8).length = 8 := l3
  have q7 : (octf 0 12).length = 12 := l4
  refine sseal_chk ?_ (zr_len 8) rfl ?_
  · simp only [List.length_append, q1, q4, q6, q5, q7]
  · simp only [List.length_append, q2, q6, q3, zr_len, List.length_cons, List.length_nil]

set_option maxRecDepth 100000 in
theorem ustar_Encode (h : Heap) (hG : Glb h) (t : Int) (name : List UInt8) (pre : List UInt8) (link : List UInt8) (mode : Int) (size : Int) (ht : 0 ≤ t ∧ t ≤ 255) : Cal Tryz.prog 20 #[.agg #[.int .u8 (t), str name, str pre, str link, .int .i64 (mode), .int .i64 (size)]] h (fun v h' => ∃ s0, v = .tuple #[s0, .int .i64 (ucheck t name pre link mode size)] ∧ Bytes h' s0 (uenc t name pre link mode size) ∧ Ext h h') := by
 refine Cal_enter (args := [.agg #[.int .u8 (t), str name, str pre, str link, .int .i64 (mode), .int .i64 (size)]]) Tryz.func20 rfl rfl rfl (fun σ => ?_)
 refine Wr ?_
 refine L_mks (M_box rfl) rfl rfl rfl ?_
 rintro _ h1 ⟨rfl, hn1⟩
 have hk2 : Blk h1 h.size [.int .u8 (t), str name, str pre, str link, .int .i64 (mode), .int .i64 (size)] := hn1.blk
 refine Av ?_
 refine Av ?_
 refine Nx ?_
 refine W_sub _ (tk3 3 2 1) ?_
 refine W_seq (W_seq (W_region ?_))
 refine Ly (Y_ldbox (us := [.int .u8 (t), str name, str pre, str link, .int .i64 (mode), .int .i64 (size)]) Tryz.underlying57 rfl (show _ = some 6 by kernel_rfl) rfl hk2 rfl) ?_
 refine L_call (E_call (by kernel_rfl) rfl) (ustar_Check _ (hG.ext hn1.ext) t name pre link mode size (by first | omega | rfl | (simp [UB, zr_len, k1, k2, k3, l1, l2, l3, l4]; done) | (simp <;> omega))) rfl rfl rfl ?_
 rintro _ h2 ⟨rfl, hx3⟩
 refine Av ?_
 refine Nx ?_
 refine W_sub _ (tk4 4 3 2 1) ?_
 refine Wr ?_
 refine Mv ?_
 refine Ly (Y_neq rfl rfl) ?_
 refine Nx ?_
 refine W_sub _ (tk5 13 4 3 2 1) ?_
 refine W_splitd rfl (fun e => ?_) (fun e => ?_)
 ·refine Wr ?_
  refine Mv ?_
  refine Av ?_
  refine Av ?_
  refine Nx ?_
  refine W_sub _ (tk3 3 2 1) ?_
  refine W_ret (X_then_ret ?_)
  refine X_ret2 rfl rfl rfl ?_
  refine ⟨_, rfl, ?_, (hn1.ext.trans hx3)⟩
  unfold uenc
  rw [if_neg e]
  exact Bytes.nil _
 refine Ws ?_
 refine W_sub _ (tk3 3 2 1) ?_
 have e' : ucheck t name pre link mode size = 0 := by simpa using e
 obtain ⟨-, c1, c2, c3, hm, hs⟩ := ucheck_ok e'
 have k1 : (cfmt name 100).length = 100 := cf_len (w := 100) c1
 have k2 : (cfmt link 100).length = 100 := cf_len (w := 100) c2
 have k3 : (cfmt pre 155).length = 155 := cf_len (w := 155) c3
 have l1 : (octf mode 8).length = 8 := of_len (w := 8) (oerr_mode hm) (by decide)
 have l2 : (octf size 12).length = 12 := of_len (w := 12) (oerr_size hs) (by decide)
 have l3 : (octf 0 8).length = 8 := of_len (n := 0) (w := 8) (by decide) (by decide)
 have l4 : (octf 0 12).length = 12 := of_len (n := 0) (w := 12) (by decide) (by decide)
 refine Wr ?_
 refine L_mks (M_makeb Tryz.underlying33 (by unfold elemRow; kernel_rfl) rfl rfl rfl (by omega) (by omega)) rfl rfl rfl ?_
 rintro _ h3 ⟨rfl, hx4, hb5⟩
 refine Av ?_
 refine Nx ?_
 refine W_sub _ (tk4 5 3 2 1) ?_
 refine Wr ?_
 refine Av ?_
 refine Av ?_
 refine Nx ?_
 have hb6 : Buf h3 h2.size ((UB (zr 100) (zr 8) (zr 8) (zr 8) (zr 12) (zr 12) (zr 1) (zr 100) (zr 8) (zr 8) (zr 8) (zr 155)).flatten) := Buf.congr hb5 (by kernel_rfl)
 refine W_seq ?_
 refine W_pers [(7, .func (.func 43) #[] #[]), (6, .func (.func 42) #[] #[]), (5, .slice (some ⟨h2.size, 0, none⟩) (512 : Int).toNat (512 : Int).toNat), (3, .int .i64 0), (2, .slice none 0 0), (1, .pointer (some ⟨h.size, 0, none⟩))] (tk6 7 6 5 3 2 1) (by kernel_rfl) ?_
 refine LP_op 0 (fun _ vv => .func (.func 42) #[] #[] = vv) [] rfl rfl (by kernel_rfl) (fun _ _ _ _ p => p) ?_ ?_
 ·intro h4 hx7
  refine Needs_nil ?_
  refine Stp_yld (Y_move rfl) rfl ?_
  exact rfl
 refine LP_op 1 (fun _ vv => .agg #[.int .i64 0, .int .i64 100] = vv) [] rfl rfl (by kernel_rfl) (fun _ _ _ _ p => p) ?_ ?_
 ·intro h5 hx8
  refine Needs_nil ?_
  refine Stp_yld (Y_ldclsA (us := [.int .i64 0, .int .i64 100]) Tryz.underlying93 rfl (show _ = some 2 by kernel_rfl) rfl ((hG.ext (((hn1.ext.trans hx3).trans hx4).trans hx8))).g0 rfl) rfl ?_
  exact rfl
 refine LP_op 2 (fun _ vv => .slice (some ⟨h2.size, 0, none⟩) (512 : Int).toNat (512 : Int).toNat = vv) [] rfl rfl (by kernel_rfl) (fun _ _ _ _ p => p) ?_ ?_
 ·intro h6 hx9
  refine Needs_nil ?_
  refine Stp_yld (Y_move rfl) rfl ?_
  exact rfl
 refine LP_op 3 (fun _ vv => slcut 1 0 100 (.slice (some ⟨h2.size, 0, none⟩) (512 : Int).toNat (512 : Int).toNat) = vv) [(0, 16), (1, 17), (2, 18)] rfl rfl (by kernel_rfl) (fun _ _ _ _ p => p) ?_ ?_
 ·intro h7 hx10
  rintro _ rfl
  rintro _ rfl
  rintro _ rfl
  refine Needs_nil ?_
  refine Stp_call (E_callv (fs := []) (cs := []) (by kernel_rfl) rfl rfl) (field_of _ 0 100 (.slice (some ⟨h2.size, 0, none⟩) (512 : Int).toNat (512 : Int).toNat) ((UB (zr 100) (zr 8) (zr 8) (zr 8) (zr 12) (zr 12) (zr 1) (zr 100) (zr 8) (zr 8) (zr 8) (zr 155)).flatten) ((hb6.bytes (by simp [UB, zr_len, k1, k2, k3, l1, l2, l3, l4])).ext hx10) (by first | omega | rfl | (simp [UB, zr_len, k1, k2, k3, l1, l2, l3, l4]; done) | (simp <;> omega)) (by first | omega | rfl | (simp [UB, zr_len, k1, k2, k3, l1, l2, l3, l4]; done) | (simp <;> omega))) rfl ?_
  rintro _ h8 ⟨rfl, hx11⟩
  exact ⟨hx11, rfl⟩
 refine LP_op 4 (fun _ vv => .pointer (some ⟨h.size, 0 + 1, none⟩) = vv) [] rfl rfl (by kernel_rfl) (fun _ _ _ _ p => p) ?_ ?_
 ·intro h9 hx12
  refine Needs_nil ?_
  refine Stp_yld (Y_fieldAddr (off := 1) (by kernel_rfl) rfl rfl) rfl ?_
  exact rfl
 refine LP_op 5 (fun _ vv => str name = vv) [(4, 20)] rfl rfl (by kernel_rfl) (fun _ _ _ _ p => p) ?_ ?_
 ·intro h10 hx13
  rintro _ rfl
  refine Needs_nil ?_
  refine Stp_yld (Y_ldblk Tryz.underlying9 rfl rfl (hk2.ext ((hx3.trans hx4).trans hx13)) rfl) rfl ?_
  exact rfl
 refine LP_tail rfl 6 [(3, 19), (5, 21)] rfl rfl (by kernel_rfl) (by kernel_rfl) (by kernel_rfl) rfl ?_
 intro h11 hx14
 rintro _ rfl
 rintro _ rfl
 refine Needs_nil ?_
 refine L_mks (M_copysubs Tryz.underlying33 (show _ = some 1 by kernel_rfl) rfl rfl (hb6.ext hx14) (by omega) (by omega) (by omega) (by simp [UB, zr_len, k1, k2, k3, l1, l2, l3, l4])) rfl rfl rfl ?_
 rintro _ h12 ⟨rfl, hx15, hs16, hb17⟩
 have hb18 : Buf h12 h2.size ((UB (cfmt name 100) (zr 8) (zr 8) (zr 8) (zr 12) (zr 12) (zr 1) (zr 100) (zr 8) (zr 8) (zr 8) (zr 155)).flatten) := Buf.congr hb17 (by exact fl_splice (i := 0) (w := 100) rfl (by simp [UB, zr_len, k1, k2, k3, l1, l2, l3, l4]) (cf_le c1) (cf_ok c1))
 refine Nx ?_
 refine W_sub _ (tk6 7 6 5 3 2 1) ?_
 refine W_seq ?_
 refine W_pers [(7, .func (.func 43) #[] #[]), (6, .func (.func 42) #[] #[]), (5, .slice (some ⟨h2.size, 0, none⟩) (512 : Int).toNat (512 : Int).toNat), (3, .int .i64 0), (2, .slice none 0 0), (1, .pointer (some ⟨h.size, 0, none⟩))] (tk6 7 6 5 3 2 1) (by kernel_rfl) ?_
 refine LP_op 0 (fun _ vv => .func (.func 42) #[] #[] = vv) [] rfl rfl (by kernel_rfl) (fun _ _ _ _ p => p) ?_ ?_
 ·intro h13 hx19
  refine Needs_nil ?_
  refine Stp_yld (Y_move rfl) rfl ?_
  exact rfl
 refine LP_op 1 (fun _ vv => .agg #[.int .i64 157, .int .i64 100] = vv) [] rfl rfl (by kernel_rfl) (fun _ _ _ _ p => p) ?_ ?_
 ·intro h14 hx20
  refine Needs_nil ?_
  refine Stp_yld (Y_ldclsA (us := [.int .i64 157, .int .i64 100]) Tryz.underlying93 rfl (show _ = some 2 by kernel_rfl) rfl ((hG.ext (((((hn1.ext.trans hx3).trans hx4).trans hx14).then' hx15 (by simp) (Nat.le_trans hn1.ext.size hx3.size)).trans hx20))).g7 rfl) rfl ?_
  exact rfl
 refine LP_op 2 (fun _ vv => .slice (some ⟨h2.size, 0, none⟩) (512 : Int).toNat (512 : Int).toNat = vv) [] rfl rfl (by kernel_rfl) (fun _ _ _ _ p => p) ?_ ?_
 ·intro h15 hx21
  refine Needs_nil ?_
  refine Stp_yld (Y_move rfl) rfl ?_
  exact rfl
 refine LP_op 3 (fun _ vv => slcut 1 157 257 (.slice (some ⟨h2.size, 0, none⟩) (512 : Int).toNat (512 : Int).toNat) = vv) [(1, 24), (2, 25), (0, 23)] rfl rfl (by kernel_rfl) (fun _ _ _ _ p => p) ?_ ?_
 ·intro h16 hx22
  rintro _ rfl
  rintro _ rfl
  rintro _ rfl
  refine Needs_nil ?_
  refine Stp_call (E_callv (fs := []) (cs := []) (by kernel_rfl) rfl rfl) (field_of _ 157 100 (.slice (some ⟨h2.size, 0, none⟩) (512 : Int).toNat (512 : Int).toNat) ((UB (cfmt name 100) (zr 8) (zr 8) (zr 8) (zr 12) (zr 12) (zr 1) (zr 100) (zr 8) (zr 8) (zr 8) (zr 155)).flatten) ((hb18.bytes (by simp [UB, zr_len, k1, k2, k3, l1, l2, l3, l4])).ext hx22) (by first | omega | rfl | (simp [UB, zr_len, k1, k2, k3, l1, l2, l3, l4]; done) | (simp <;> omega)) (by first | omega | rfl | (simp [UB, zr_len, k1, k2, k3, l1, l2, l3, l4]; done) | (simp <;> omega))) rfl ?_
  rintro _ h17 ⟨rfl, hx23⟩
  exact ⟨hx23, rfl⟩
 refine LP_op 4 (fun _ vv => .pointer (some ⟨h.size, 0 + 3, none⟩) = vv) [] rfl rfl (by kernel_rfl) (fun _ _ _ _ p => p) ?_ ?_
 ·intro h18 hx24
  refine Needs_nil ?_
  refine Stp_yld (Y_fieldAddr (off := 3) (by kernel_rfl) rfl rfl) rfl ?_
  exact rfl
 refine LP_op 5 (fun _ vv => str link = vv) [(4, 27)] rfl rfl (by kernel_rfl) (fun _ _ _ _ p => p) ?_ ?_
 ·intro h19 hx25
  rintro _ rfl
  refine Needs_nil ?_
  refine Stp_yld (Y_ldblk Tryz.underlying9 rfl rfl (hk2.ext ((((hx3.trans hx4).trans hx14).then' hx15 (by simp) hx3.size).trans hx25)) rfl) rfl ?_
  exact rfl
 refine LP_tail rfl 6 [(3, 26), (5, 28)] rfl rfl (by kernel_rfl) (by kernel_rfl) (by kernel_rfl) rfl ?_
 intro h20 hx26
 rintro _ rfl
 rintro _ rfl
 refine Needs_nil ?_
 refine L_mks (M_copysubs Tryz.underlying33 (show _ = some 1 by kernel_rfl) rfl rfl (hb18.ext hx26) (by omega) (by omega) (by omega) (by simp [UB, zr_len, k1, k2, k3, l1, l2, l3, l4])) rfl rfl rfl ?_
 rintro _ h21 ⟨rfl, hx27, hs28, hb29⟩
 have hb30 : Buf h21 h2.size ((UB (cfmt name 100) (zr 8) (zr 8) (zr 8) (zr 12) (zr 12) (zr 1) (cfmt link 100) (zr 8) (zr 8) (zr 8) (zr 155)).flatten) := Buf.congr hb29 (by exact fl_splice (i := 8) (w := 100) rfl (by simp [UB, zr_len, k1, k2, k3, l1, l2, l3, l4]) (cf_le c2) (cf_ok c2))
 refine Nx ?_
 refine W_sub _ (tk6 7 6 5 3 2 1) ?_
 refine W_seq ?_
 refine W_pers [(7, .func (.func 43) #[] #[]), (6, .func (.func 42) #[] #[]), (5, .slice (some ⟨h2.size, 0, none⟩) (512 : Int).toNat (512 : Int).toNat), (3, .int .i64 0), (2, .slice none 0 0), (1, .pointer (some ⟨h.size, 0, none⟩))] (tk6 7 6 5 3 2 1) (by kernel_rfl) ?_
 refine LP_op 0 (fun _ vv => .func (.func 42) #[] #[] = vv) [] rfl rfl (by kernel_rfl) (fun _ _ _ _ p => p) ?_ ?_
 ·intro h22 hx31
  refine Needs_nil ?_
  refine Stp_yld (Y_move rfl) rfl ?_
  exact rfl
 refine LP_op 1 (fun _ vv => .agg #[.int .i64 345, .int .i64 155] = vv) [] rfl rfl (by kernel_rfl) (fun _ _ _ _ p => p) ?_ ?_
 ·intro h23 hx32
  refine Needs_nil ?_
  refine Stp_yld (Y_ldclsA (us := [.int .i64 345, .int .i64 155]) Tryz.underlying93 rfl (show _ = some 2 by kernel_rfl) rfl ((hG.ext (((((((hn1.ext.trans hx3).trans hx4).trans hx14).then' hx15 (by simp) (Nat.le_trans hn1.ext.size hx3.size)).trans hx26).then' hx27 (by simp) (Nat.le_trans hn1.ext.size hx3.size)).trans hx32))).g11 rfl) rfl ?_
  exact rfl
 refine LP_op 2 (fun _ vv => .slice (some ⟨h2.size, 0, none⟩) (512 : Int).toNat (512 : Int).toNat = vv) [] rfl rfl (by kernel_rfl) (fun _ _ _ _ p => p) ?_ ?_
 ·intro h24 hx33
  refine Needs_nil ?_
  refine Stp_yld (Y_move rfl) rfl ?_
  exact rfl
 refine LP_op 3 (fun _ vv => slcut 1 345 500 (.slice (some ⟨h2.size, 0, none⟩) (512 : Int).toNat (512 : Int).toNat) = vv) [(2, 32), (0, 30), (1, 31)] rfl rfl (by kernel_rfl) (fun _ _ _ _ p => p) ?_ ?_
 ·intro h25 hx34
  rintro _ rfl
  rintro _ rfl
  rintro _ rfl
  refine Needs_nil ?_
  refine Stp_call (E_callv (fs := []) (cs := []) (by kernel_rfl) rfl rfl) (field_of _ 345 155 (.slice (some ⟨h2.size, 0, none⟩) (512 : Int).toNat (512 : Int).toNat) ((UB (cfmt name 100) (zr 8) (zr 8) (zr 8) (zr 12) (zr 12) (zr 1) (cfmt link 100) (zr 8) (zr 8) (zr 8) (zr 155)).flatten) ((hb30.bytes (by simp [UB, zr_len, k1, k2, k3, l1, l2, l3, l4])).ext hx34) (by first | omega | rfl | (simp [UB, zr_len, k1, k2, k3, l1, l2, l3, l4]; done) | (simp <;> omega)) (by first | omega | rfl | (simp [UB, zr_len, k1, k2, k3, l1, l2, l3, l4]; done) | (simp <;> omega))) rfl ?_
  rintro _ h26 ⟨rfl, hx35⟩
  exact ⟨hx35, rfl⟩
 refine LP_op 4 (fun _ vv => .pointer (some ⟨h.size, 0 + 2, none⟩) = vv) [] rfl rfl (by kernel_rfl) (fun _ _ _ _ p => p) ?_ ?_
 ·intro h27 hx36
  refine Needs_nil ?_
  refine Stp_yld (Y_fieldAddr (off := 2) (by kernel_rfl) rfl rfl) rfl ?_
  exact rfl
 refine LP_op 5 (fun _ vv => str pre = vv) [(4, 34)] rfl rfl (by kernel_rfl) (fun _ _ _ _ p => p) ?_ ?_
 ·intro h28 hx37
  rintro _ rfl
  refine Needs_nil ?_
  refine Stp_yld (Y_ldblk Tryz.underlying9 rfl rfl (hk2.ext ((((((hx3.trans hx4).trans hx14).then' hx15 (by simp) hx3.size).trans hx26).then' hx27 (by simp) hx3.size).trans hx37)) rfl) rfl ?_
  exact rfl
 refine LP_tail rfl 6 [(3, 33), (5, 35)] rfl rfl (by kernel_rfl) (by kernel_rfl) (by kernel_rfl) rfl ?_
 intro h29 hx38
 rintro _ rfl
 rintro _ rfl
 refine Needs_nil ?_
 refine L_mks (M_copysubs Tryz.underlying33 (show _ = some 1 by kernel_rfl) rfl rfl (hb30.ext hx38) (by omega) (by omega) (by omega) (by simp [UB, zr_len, k1, k2, k3, l1, l2, l3, l4])) rfl rfl rfl ?_
 rintro _ h30 ⟨rfl, hx39, hs40, hb41⟩
 have hb42 : Buf h30 h2.size ((UB (cfmt name 100) (zr 8) (zr 8) (zr 8) (zr 12) (zr 12) (zr 1) (cfmt link 100) (zr 8) (zr 8) (zr 8) (cfmt pre 155)).flatten) := Buf.congr hb41 (by exact fl_splice (i := 13) (w := 155) rfl (by simp [UB, zr_len, k1, k2, k3, l1, l2, l3, l4]) (cf_le c3) (cf_ok c3))
 refine Nx ?_
 refine W_sub _ (tk6 7 6 5 3 2 1) ?_
 refine Wr ?_
 refine Mv ?_
 have me1 := (((hn1.ext.trans hx3).trans hx4).trans hx14).then' hx15 (by simp) (Nat.le_trans hn1.ext.size hx3.size)
 have me2 := (me1.trans hx26).then' hx27 (by simp) (Nat.le_trans hn1.ext.size hx3.size)
 have me3 := (me2.trans hx38).then' hx39 (by simp) (Nat.le_trans hn1.ext.size hx3.size)
 refine Ly (Y_ldclsA (us := [.int .i64 257, .int .i64 8]) Tryz.underlying93 rfl (show _ = some 2 by kernel_rfl) rfl ((hG.ext me3)).g8 rfl) ?_
 refine Mv ?_
 refine L_call (E_callv (fs := []) (cs := []) (by kernel_rfl) rfl rfl) (field_of _ 257 8 (.slice (some ⟨h2.size, 0, none⟩) (512 : Int).toNat (512 : Int).toNat) ((UB (cfmt name 100) (zr 8) (zr 8) (zr 8) (zr 12) (zr 12) (zr 1) (cfmt link 100) (zr 8) (zr 8) (zr 8) (cfmt pre 155)).flatten) (hb42.bytes (by simp [UB, zr_len, k1, k2, k3, l1, l2, l3, l4])) (by first | omega | rfl | (simp [UB, zr_len, k1, k2, k3, l1, l2, l3, l4]; done) | (simp <;> omega)) (by first | omega | rfl | (simp [UB, zr_len, k1, k2, k3, l1, l2, l3, l4]; done) | (simp <;> omega))) rfl rfl rfl ?_
 rintro _ h31 ⟨rfl, hx43⟩
 refine L_mks (M_copysubs Tryz.underlying33 (show _ = some 1 by kernel_rfl) rfl rfl (hb42.ext hx43) (by omega) (by omega) (by omega) (by simp [UB, zr_len, k1, k2, k3, l1, l2, l3, l4])) rfl rfl rfl ?_
 rintro _ h32 ⟨rfl, hx44, hs45, hb46⟩
 have hb47 : Buf h32 h2.size ((UB (cfmt name 100) (zr 8) (zr 8) (zr 8) (zr 12) (zr 12) (zr 1) (cfmt link 100) [117, 115, 116, 97, 114, 0, 48, 48] (zr 8) (zr 8) (cfmt pre 155)).flatten) := Buf.congr hb46 (by exact fl_splice (i := 9) (w := 8) rfl (by simp [UB, zr_len, k1, k2, k3, l1, l2, l3, l4]) (by decide) rfl)
 refine Nx ?_
 refine W_sub _ (tk6 7 6 5 3 2 1) ?_
 refine W_seq ?_
 refine W_pers [(7, .func (.func 43) #[] #[]), (6, .func (.func 42) #[] #[]), (5, .slice (some ⟨h2.size, 0, none⟩) (512 : Int).toNat (512 : Int).toNat), (3, .int .i64 0), (2, .slice none 0 0), (1, .pointer (some ⟨h.size, 0, none⟩))] (tk6 7 6 5 3 2 1) (by kernel_rfl) ?_
 refine LP_op 0 (fun _ vv => .func (.func 42) #[] #[] = vv) [] rfl rfl (by kernel_rfl) (fun _ _ _ _ p => p) ?_ ?_
 ·intro h33 hx48
  refine Needs_nil ?_
  refine Stp_yld (Y_move rfl) rfl ?_
  exact rfl
 refine LP_op 1 (fun _ vv => .agg #[.int .i64 156, .int .i64 1] = vv) [] rfl rfl (by kernel_rfl) (fun _ _ _ _ p => p) ?_ ?_
 ·intro h34 hx49
  refine Needs_nil ?_
  refine Stp_yld (Y_ldclsA (us := [.int .i64 156, .int .i64 1]) Tryz.underlying93 rfl (show _ = some 2 by kernel_rfl) rfl ((hG.ext (((((((((((hn1.ext.trans hx3).trans hx4).trans hx14).then' hx15 (by simp) (Nat.le_trans hn1.ext.size hx3.size)).trans hx26).then' hx27 (by simp) (Nat.le_trans hn1.ext.size hx3.size)).trans hx38).then' hx39 (by simp) (Nat.le_trans hn1.ext.size hx3.size)).trans hx43).then' hx44 (by simp) (Nat.le_trans hn1.ext.size hx3.size)).trans hx49))).g6 rfl) rfl ?_
  exact rfl
 refine LP_op 2 (fun _ vv => .slice (some ⟨h2.size, 0, none⟩) (512 : Int).toNat (512 : Int).toNat = vv) [] rfl rfl (by kernel_rfl) (fun _ _ _ _ p => p) ?_ ?_
 ·intro h35 hx50
  refine Needs_nil ?_
  refine Stp_yld (Y_move rfl) rfl ?_
  exact rfl
 refine LP_op 3 (fun _ vv => slcut 1 156 157 (.slice (some ⟨h2.size, 0, none⟩) (512 : Int).toNat (512 : Int).toNat) = vv) [(0, 42), (1, 43), (2, 44)] rfl rfl (by kernel_rfl) (fun _ _ _ _ p => p) ?_ ?_
 ·intro h36 hx51
  rintro _ rfl
  rintro _ rfl
  rintro _ rfl
  refine Needs_nil ?_
  refine Stp_call (E_callv (fs := []) (cs := []) (by kernel_rfl) rfl rfl) (field_of _ 156 1 (.slice (some ⟨h2.size, 0, none⟩) (512 : Int).toNat (512 : Int).toNat) ((UB (cfmt name 100) (zr 8) (zr 8) (zr 8) (zr 12) (zr 12) (zr 1) (cfmt link 100) [117, 115, 116, 97, 114, 0, 48, 48] (zr 8) (zr 8) (cfmt pre 155)).flatten) ((hb47.bytes (by simp [UB, zr_len, k1, k2, k3, l1, l2, l3, l4])).ext hx51) (by first | omega | rfl | (simp [UB, zr_len, k1, k2, k3, l1, l2, l3, l4]; done) | (simp <;> omega)) (by first | omega | rfl | (simp [UB, zr_len, k1, k2, k3, l1, l2, l3, l4]; done) | (simp <;> omega))) rfl ?_
  rintro _ h37 ⟨rfl, hx52⟩
  exact ⟨hx52, rfl⟩
 refine LP_op 4 (fun _ vv => .pointer (some ⟨h.size, 0 + 0, none⟩) = vv) [] rfl rfl (by kernel_rfl) (fun _ _ _ _ p => p) ?_ ?_
 ·intro h38 hx53
  refine Needs_nil ?_
  refine Stp_yld (Y_fieldAddr (off := 0) (by kernel_rfl) rfl rfl) rfl ?_
  exact rfl
 refine LP_op 5 (fun _ vv => .int .u8 (t) = vv) [(4, 46)] rfl rfl (by kernel_rfl) (fun _ _ _ _ p => p) ?_ ?_
 ·intro h39 hx54
  rintro _ rfl
  refine Needs_nil ?_
  refine Stp_yld (Y_ldblk Tryz.underlying5 rfl rfl (hk2.ext ((((((((((hx3.trans hx4).trans hx14).then' hx15 (by simp) hx3.size).trans hx26).then' hx27 (by simp) hx3.size).trans hx38).then' hx39 (by simp) hx3.size).trans hx43).then' hx44 (by simp) hx3.size).trans hx54)) rfl) rfl ?_
  exact rfl
 refine LP_op 6 (fun hh r10_1 => OwnB hh h32.size r10_1 ([(t).toNat.toUInt8])) [(5, 47)] rfl rfl (by kernel_rfl) (fun _ _ _ x_ p_ => p_.ext x_) ?_ ?_
 ·intro h40 hx55
  rintro _ rfl
  refine Needs_nil ?_
  refine Stp_mks (M_litb (l := [(t).toNat.toUInt8]) (cells := [.int .u8 (t)]) (pv := [(0, .int .u8 (t))]) (E := 5) (evp (is := [0]) (os := [.tmp 47]) (vs := [.int .u8 (t)]) rfl rfl) rfl (by rw [bv_of (show 0 ≤ t ∧ t ≤ 255 by first | exact byt_lt _ _ | omega)]; rfl) (fun _ => by kernel_rfl)) rfl ?_
  rintro v56 h41 ⟨ho57, hx58⟩
  exact ⟨hx58, (ho57.low hx55.size)⟩
 refine LP_tail rfl 7 [(3, 45), (6, 48)] rfl rfl (by kernel_rfl) (by kernel_rfl) (by kernel_rfl) rfl ?_
 intro h42 hx59
 rintro _ rfl
 intro r10_1 q10_1
 refine Needs_nil ?_
 refine L_mks (M_copysubb Tryz.underlying33 (show _ = some 1 by kernel_rfl) rfl rfl q10_1.bytes (hb47.ext hx59) (by omega) (by omega) (by omega) (by simp [UB, zr_len, k1, k2, k3, l1, l2, l3, l4])) rfl rfl rfl ?_
 rintro _ h43 ⟨rfl, hx60, hs61, hb62⟩
 have hb63 : Buf h43 h2.size ((UB (cfmt name 100) (zr 8) (zr 8) (zr 8) (zr 12) (zr 12) [t.toNat.toUInt8] (cfmt link 100) [117, 115, 116, 97, 114, 0, 48, 48] (zr 8) (zr 8) (cfmt pre 155)).flatten) := Buf.congr hb62 (by exact fl_splice (i := 7) (w := 1) rfl (by simp [UB, zr_len, k1, k2, k3, l1, l2, l3, l4]) (by simp) rfl)
 refine Nx ?_
 refine W_sub _ (tk5 7 5 3 2 1) ?_
 refine Wr ?_
 refine Mv ?_
 have me4 := (me3.trans hx43).then' hx44 (by simp) (Nat.le_trans hn1.ext.size hx3.size)
 have me5 := (me4.trans hx59).then' hx60 (by simp) (Nat.le_trans hn1.ext.size hx3.size)
 refine Ly (Y_ldclsA (us := [.int .i64 100, .int .i64 8]) Tryz.underlying93 rfl (show _ = some 2 by kernel_rfl) rfl ((hG.ext me5)).g1 rfl) ?_
 refine Mv ?_
 refine Ly (Y_fieldAddr (off := 4) (by kernel_rfl) rfl rfl) ?_
 have me6 := ((hx3.trans hx4).trans hx14).then' hx15 (by simp) hx3.size
 have me7 := ((me6.trans hx26).then' hx27 (by simp) hx3.size).trans hx38
 have me8 := ((me7.then' hx39 (by simp) hx3.size).trans hx43).then' hx44 (by simp) hx3.size
 refine Ly (Y_ldblk Tryz.underlying3 rfl rfl (hk2.ext ((me8.trans hx59).then' hx60 (by simp) hx3.size)) rfl) ?_
 refine L_call (E_callv (fs := []) (cs := []) (by kernel_rfl) rfl rfl) (field_number _ 100 8 h2.size ((512 : Int).toNat) ((UB (cfmt name 100) (zr 8) (zr 8) (zr 8) (zr 12) (zr 12) [t.toNat.toUInt8] (cfmt link 100) [117, 115, 116, 97, 114, 0, 48, 48] (zr 8) (zr 8) (cfmt pre 155)).flatten) hb63 mode (by first | omega | rfl | (simp [UB, zr_len, k1, k2, k3, l1, l2, l3, l4]; done) | (simp <;> omega)) (by first | omega | rfl | (simp [UB, zr_len, k1, k2, k3, l1, l2, l3, l4]; done) | (simp <;> omega)) (by first | omega | rfl | (simp [UB, zr_len, k1, k2, k3, l1, l2, l3, l4]; done) | (simp <;> omega)) (by first | omega | rfl | (simp [UB, zr_len, k1, k2, k3, l1, l2, l3, l4]; done) | (simp <;> omega)) (by first | omega | rfl | (simp [UB, zr_len, k1, k2, k3, l1, l2, l3, l4]; done) | (simp <;> omega))) rfl rfl rfl ?_
 rintro _ h44 ⟨rfl, hx64, hb65⟩
 have hb66 : Buf h44 h2.size ((UB (cfmt name 100) (octf mode 8) (zr 8) (zr 8) (zr 12) (zr 12) [t.toNat.toUInt8] (cfmt link 100) [117, 115, 116, 97, 114, 0, 48, 48] (zr 8) (zr 8) (cfmt pre 155)).flatten) := Buf.congr hb65 (by exact fl_splice (i := 1) (w := 8) rfl (by simp [UB, zr_len, k1, k2, k3, l1, l2, l3, l4]) (Nat.le_of_eq l1) (of_ok l1))
 refine Nx ?_
 refine W_sub _ (tk5 7 5 3 2 1) ?_
 refine Wr ?_
 refine Mv ?_
 have me9 := me5.then' hx64 (by simp) (Nat.le_trans hn1.ext.size hx3.size)
 refine Ly (Y_ldclsA (us := [.int .i64 124, .int .i64 12]) Tryz.underlying93 rfl (show _ = some 2 by kernel_rfl) rfl ((hG.ext me9)).g4 rfl) ?_
 refine Mv ?_
 refine Ly (Y_fieldAddr (off := 5) (by kernel_rfl) rfl rfl) ?_
 have me10 := ((me8.trans hx59).then' hx60 (by simp) hx3.size).then' hx64 (by simp) hx3.size
 refine Ly (Y_ldblk Tryz.underlying2 rfl rfl (hk2.ext me10) rfl) ?_
 refine L_call (E_callv (fs := []) (cs := []) (by kernel_rfl) rfl rfl) (field_number _ 124 12 h2.size ((512 : Int).toNat) ((UB (cfmt name 100) (octf mode 8) (zr 8) (zr 8) (zr 12) (zr 12) [t.toNat.toUInt8] (cfmt link 100) [117, 115, 116, 97, 114, 0, 48, 48] (zr 8) (zr 8) (cfmt pre 155)).flatten) hb66 size (by first | omega | rfl | (simp [UB, zr_len, k1, k2, k3, l1, l2, l3, l4]; done) | (simp <;> omega)) (by first | omega | rfl | (simp [UB, zr_len, k1, k2, k3, l1, l2, l3, l4]; done) | (simp <;> omega)) (by first | omega | rfl | (simp [UB, zr_len, k1, k2, k3, l1, l2, l3, l4]; done) | (simp <;> omega)) (by first | omega | rfl | (simp [UB, zr_len, k1, k2, k3, l1, l2, l3, l4]; done) | (simp <;> omega)) (by first | omega | rfl | (simp [UB, zr_len, k1, k2, k3, l1, l2, l3, l4]; done) | (simp <;> omega))) rfl rfl rfl ?_
 rintro _ h45 ⟨rfl, hx67, hb68⟩
 have hb69 : Buf h45 h2.size ((UB (cfmt name 100) (octf mode 8) (zr 8) (zr 8) (octf size 12) (zr 12) [t.toNat.toUInt8] (cfmt link 100) [117, 115, 116, 97, 114, 0, 48, 48] (zr 8) (zr 8) (cfmt pre 155)).flatten) := Buf.congr hb68 (by exact fl_splice (i := 4) (w := 12) rfl (by simp [UB, zr_len, k1, k2, k3, l1, l2, l3, l4]) (Nat.le_of_eq l2) (of_ok l2))
 refine Nx ?_
 refine W_sub _ (tk4 7 5 3 2) ?_
 refine W_seq (W_seq (W_region ?_))
 have me11 := me9.then' hx67 (by simp) (Nat.le_trans hn1.ext.size hx3.size)
 refine Ly (Y_ldclsA (us := [.int .i64 108, .int .i64 8]) Tryz.underlying93 rfl (show _ = some 2 by kernel_rfl) rfl ((hG.ext me11)).g2 rfl) ?_
 refine Ly (Y_ldclsA (us := [.int .i64 116, .int .i64 8]) Tryz.underlying93 rfl (show _ = some 2 by kernel_rfl) rfl ((hG.ext me11)).g3 rfl) ?_
 refine Ly (Y_ldclsA (us := [.int .i64 136, .int .i64 12]) Tryz.underlying93 rfl (show _ = some 2 by kernel_rfl) rfl ((hG.ext me11)).g5 rfl) ?_
 refine Ly (Y_ldclsA (us := [.int .i64 329, .int .i64 8]) Tryz.underlying93 rfl (show _ = some 2 by kernel_rfl) rfl ((hG.ext me11)).g9 rfl) ?_
 refine Ly (Y_ldclsA (us := [.int .i64 337, .int .i64 8]) Tryz.underlying93 rfl (show _ = some 2 by kernel_rfl) rfl ((hG.ext me11)).g10 rfl) ?_
 refine L_mks (M_buildSlice (cells := [.int .i64 108, .int .i64 8, .int .i64 116, .int .i64 8, .int .i64 136, .int .i64 12, .int .i64 329, .int .i64 8, .int .i64 337, .int .i64 8]) (pv := [(0, .agg #[.int .i64 108, .int .i64 8]), (1, .agg #[.int .i64 116, .int .i64 8]), (2, .agg #[.int .i64 136, .int .i64 12]), (3, .agg #[.int .i64 329, .int .i64 8]), (4, .agg #[.int .i64 337, .int .i64 8])]) (E := 93) (evp (is := [0, 1, 2, 3, 4]) (os := [.tmp 62, .tmp 63, .tmp 64, .tmp 65, .tmp 66]) (vs := [.agg #[.int .i64 108, .int .i64 8], .agg #[.int .i64 116, .int .i64 8], .agg #[.int .i64 136, .int .i64 12], .agg #[.int .i64 329, .int .i64 8], .agg #[.int .i64 337, .int .i64 8]]) rfl rfl) (fun _ => by kernel_rfl)) rfl rfl rfl ?_
 rintro _ h46 ⟨rfl, hn70⟩
 have hk71 : Blk h46 h45.size [.int .i64 108, .int .i64 8, .int .i64 116, .int .i64 8, .int .i64 136, .int .i64 12, .int .i64 329, .int .i64 8, .int .i64 337, .int .i64 8] := hn70.blk
 refine Ly (Y_lensl Tryz.underlying96 rfl) ?_
 refine Mv ?_
 refine Nx ?_
 refine W_sub _ (tk7 69 68 67 7 5 3 2) ?_
 refine W_block ?_
 refine W_rounds 5 ?_
 refine Wr ?_
 refine Ly (Y_lss rfl rfl) ?_
 refine L_nil (X_then (W_seq ?_))
 refine W_known true rfl (by first | rfl | decide | simp) ?_
 refine W_skip (X_then (W_seq (W_block (W_seq (W_region ?_)))))
 refine Ly (Y_idxlit (off := 0) Tryz.underlying96 (show _ = some 2 by kernel_rfl) rfl rfl (by decide) (by decide) rfl) ?_
 refine Ly (Y_ldbox (us := [.int .i64 108, .int .i64 8]) Tryz.underlying93 rfl (show _ = some 2 by kernel_rfl) rfl hk71 rfl) ?_
 refine L_mks (M_alloc (u := .agg #[.int .i64 0, .int .i64 0]) (by kernel_rfl)) rfl rfl rfl ?_
 rintro _ h47 ⟨rfl, hn72⟩
 have hk73 : Blk h47 h46.size [.int .i64 0, .int .i64 0] := hn72.blk
 refine L_dos (D_store (us := [.int .i64 108, .int .i64 8]) (show _ = some 2 by kernel_rfl) rfl rfl rfl (by simp [Value.oneCell']) hk73 (by simp)) rfl rfl ?_
 rintro h48 hp74
 have hk75 : Blk h48 h46.size [.int .i64 108, .int .i64 8] := hp74.blk
 refine L_nil (X_then (W_region ?_))
 refine Mv ?_
 refine Ly (Y_ldbox (us := [.int .i64 108, .int .i64 8]) Tryz.underlying93 rfl (show _ = some 2 by kernel_rfl) rfl hk75 rfl) ?_
 refine Mv ?_
 have me12 := (hn70.ext.trans hn72.ext).then' hp74.only (by simp) hn70.ext.size
 refine L_call (E_callv (fs := []) (cs := []) (by kernel_rfl) rfl rfl) (field_number _ 108 8 h2.size ((512 : Int).toNat) ((UB (cfmt name 100) (octf mode 8) (zr 8) (zr 8) (octf size 12) (zr 12) [t.toNat.toUInt8] (cfmt link 100) [117, 115, 116, 97, 114, 0, 48, 48] (zr 8) (zr 8) (cfmt pre 155)).flatten) (hb69.ext me12) (0 : Int) (by first | omega | rfl | (simp [UB, zr_len, k1, k2, k3, l1, l2, l3, l4]; done) | (simp <;> omega)) (by first | omega | rfl | (simp [UB, zr_len, k1, k2, k3, l1, l2, l3, l4]; done) | (simp <;> omega)) (by first | omega | rfl | (simp [UB, zr_len, k1, k2, k3, l1, l2, l3, l4]; done) | (simp <;> omega)) (by first | omega | rfl | (simp [UB, zr_len, k1, k2, k3, l1, l2, l3, l4]; done) | (simp <;> omega)) (by first | omega | rfl | (simp [UB, zr_len, k1, k2, k3, l1, l2, l3, l4]; done) | (simp <;> omega))) rfl rfl rfl ?_
 rintro _ h49 ⟨rfl, hx76, hb77⟩
 have hb78 : Buf h49 h2.size ((UB (cfmt name 100) (octf mode 8) (octf 0 8) (zr 8) (octf size 12) (zr 12) [t.toNat.toUInt8] (cfmt link 100) [117, 115, 116, 97, 114, 0, 48, 48] (zr 8) (zr 8) (cfmt pre 155)).flatten) := Buf.congr hb77 (by exact fl_splice (i := 2) (w := 8) rfl (by simp [UB, zr_len, k1, k2, k3, l1, l2, l3, l4]) (Nat.le_of_eq l3) (of_ok l3))
 refine L_nil (X_block (X_then ?_))
 refine W_sub _ (sk6 75 74 73 9 72 71 rfl rfl rfl rfl rfl rfl (tk8 70 69 68 67 7 5 3 2)) ?_
 refine W_region ?_
 refine Ly (Y_addl (r := 1) rfl rfl (by decide) (by decide) (by decide)) ?_
 refine Mv ?_
 refine L_nil ?_
 refine X_round ?_
 refine Wr ?_
 refine Ly (Y_lss rfl rfl) ?_
 refine L_nil (X_then (W_seq ?_))
 refine W_known true rfl (by first | rfl | decide | simp) ?_
 refine W_skip (X_then (W_seq (W_block (W_seq (W_region ?_)))))
 refine Ly (Y_idxlit (off := 2) Tryz.underlying96 (show _ = some 2 by kernel_rfl) rfl rfl (by decide) (by decide) rfl) ?_
 have me13 := Nat.le_trans (Nat.le_trans (Nat.le_trans hx14.size hx15.size) hx26.size) hx27.size
 have me14 := Nat.le_trans (Nat.le_trans (Nat.le_trans me13 hx38.size) hx39.size) hx43.size
 have me15 := Nat.le_trans (Nat.le_trans (Nat.le_trans me14 hx44.size) hx59.size) hx60.size
 have hc79 := (((hk71.ext hn72.ext).only hp74.only (ni_lt (Nat.lt_of_lt_of_le hk71.lt (Nat.le_refl _)))).only hx76 (ni_gt (Nat.lt_of_lt_of_le hb5.lt (Nat.le_trans (Nat.le_trans me15 hx64.size) hx67.size))))
 refine Ly (Y_ldbox (us := [.int .i64 116, .int .i64 8]) Tryz.underlying93 rfl (show _ = some 2 by kernel_rfl) rfl hc79 rfl) ?_
 refine L_mks (M_alloc (u := .agg #[.int .i64 0, .int .i64 0]) (by kernel_rfl)) rfl rfl rfl ?_
 rintro _ h50 ⟨rfl, hn80⟩
 have hk81 : Blk h50 h49.size [.int .i64 0, .int .i64 0] := hn80.blk
 refine L_dos (D_store (us := [.int .i64 116, .int .i64 8]) (show _ = some 2 by kernel_rfl) rfl rfl rfl (by simp [Value.oneCell']) hk81 (by simp)) rfl rfl ?_
 rintro h51 hp82
 have hk83 : Blk h51 h49.size [.int .i64 116, .int .i64 8] := hp82.blk
 refine L_nil (X_then (W_region ?_))
 refine Mv ?_
 refine Ly (Y_ldbox (us := [.int .i64 116, .int .i64 8]) Tryz.underlying93 rfl (show _ = some 2 by kernel_rfl) rfl hk83 rfl) ?_
 refine Mv ?_
 refine L_call (E_callv (fs := []) (cs := []) (by kernel_rfl) rfl rfl) (field_number _ 116 8 h2.size ((512 : Int).toNat) ((UB (cfmt name 100) (octf mode 8) (octf 0 8) (zr 8) (octf size 12) (zr 12) [t.toNat.toUInt8] (cfmt link 100) [117, 115, 116, 97, 114, 0, 48, 48] (zr 8) (zr 8) (cfmt pre 155)).flatten) (hb78.ext (hn80.ext.then' hp82.only (by simp) (Nat.le_refl _))) (0 : Int) (by first | omega | rfl | (simp [UB, zr_len, k1, k2, k3, l1, l2, l3, l4]; done) | (simp <;> omega)) (by first | omega | rfl | (simp [UB, zr_len, k1, k2, k3, l1, l2, l3, l4]; done) | (simp <;> omega)) (by first | omega | rfl | (simp [UB, zr_len, k1, k2, k3, l1, l2, l3, l4]; done) | (simp <;> omega)) (by first | omega | rfl | (simp [UB, zr_len, k1, k2, k3, l1, l2, l3, l4]; done) | (simp <;> omega)) (by first | omega | rfl | (simp [UB, zr_len, k1, k2, k3, l1, l2, l3, l4]; done) | (simp <;> omega))) rfl rfl rfl ?_
 rintro _ h52 ⟨rfl, hx84, hb85⟩
 have hb86 : Buf h52 h2.size ((UB (cfmt name 100) (octf mode 8) (octf 0 8) (octf 0 8) (octf size 12) (zr 12) [t.toNat.toUInt8] (cfmt link 100) [117, 115, 116, 97, 114, 0, 48, 48] (zr 8) (zr 8) (cfmt pre 155)).flatten) := Buf.congr hb85 (by exact fl_splice (i := 3) (w := 8) rfl (by simp [UB, zr_len, k1, k2, k3, l1, l2, l3, l4]) (Nat.le_of_eq l3) (of_ok l3))
 refine L_nil (X_block (X_then ?_))
 refine W_sub _ (sk7 75 74 73 9 72 71 70 rfl rfl rfl rfl rfl rfl rfl (tk8 69 77 68 67 7 5 3 2)) ?_
 refine W_region ?_
 refine Ly (Y_addl (r := 2) rfl rfl (by decide) (by decide) (by decide)) ?_
 refine Mv ?_
 refine L_nil ?_
 refine X_round ?_
 refine Wr ?_
 refine Ly (Y_lss rfl rfl) ?_
 refine L_nil (X_then (W_seq ?_))
 refine W_known true rfl (by first | rfl | decide | simp) ?_
 refine W_skip (X_then (W_seq (W_block (W_seq (W_region ?_)))))
 refine Ly (Y_idxlit (off := 4) Tryz.underlying96 (show _ = some 2 by kernel_rfl) rfl rfl (by decide) (by decide) rfl) ?_
 have me16 := Nat.le_trans (Nat.le_trans hn72.ext.size hp74.only.size) hx76.size
 have hc87 := (((hc79.ext hn80.ext).only hp82.only (ni_lt (Nat.lt_of_lt_of_le hk71.lt me16))).only hx84 (ni_gt (Nat.lt_of_lt_of_le hb5.lt (Nat.le_trans (Nat.le_trans me15 hx64.size) hx67.size))))
 refine Ly (Y_ldbox (us := [.int .i64 136, .int .i64 12]) Tryz.underlying93 rfl (show _ = some 2 by kernel_rfl) rfl hc87 rfl) ?_
 refine L_mks (M_alloc (u := .agg #[.int .i64 0, .int .i64 0]) (by kernel_rfl)) rfl rfl rfl ?_
 rintro _ h53 ⟨rfl, hn88⟩
 have hk89 : Blk h53 h52.size [.int .i64 0, .int .i64 0] := hn88.blk
 refine L_dos (D_store (us := [.int .i64 136, .int .i64 12]) (show _ = some 2 by kernel_rfl) rfl rfl rfl (by simp [Value.oneCell']) hk89 (by simp)) rfl rfl ?_
 rintro h54 hp90
 have hk91 : Blk h54 h52.size [.int .i64 136, .int .i64 12] := hp90.blk
 refine L_nil (X_then (W_region ?_))
 refine Mv ?_
 refine Ly (Y_ldbox (us := [.int .i64 136, .int .i64 12]) Tryz.underlying93 rfl (show _ = some 2 by kernel_rfl) rfl hk91 rfl) ?_
 refine Mv ?_
 refine L_call (E_callv (fs := []) (cs := []) (by kernel_rfl) rfl rfl) (field_number _ 136 12 h2.size ((512 : Int).toNat) ((UB (cfmt name 100) (octf mode 8) (octf 0 8) (octf 0 8) (octf size 12) (zr 12) [t.toNat.toUInt8] (cfmt link 100) [117, 115, 116, 97, 114, 0, 48, 48] (zr 8) (zr 8) (cfmt pre 155)).flatten) (hb86.ext (hn88.ext.then' hp90.only (by simp) (Nat.le_refl _))) (0 : Int) (by first | omega | rfl | (simp [UB, zr_len, k1, k2, k3, l1, l2, l3, l4]; done) | (simp <;> omega)) (by first | omega | rfl | (simp [UB, zr_len, k1, k2, k3, l1, l2, l3, l4]; done) | (simp <;> omega)) (by first | omega | rfl | (simp [UB, zr_len, k1, k2, k3, l1, l2, l3, l4]; done) | (simp <;> omega)) (by first | omega | rfl | (simp [UB, zr_len, k1, k2, k3, l1, l2, l3, l4]; done) | (simp <;> omega)) (by first | omega | rfl | (simp [UB, zr_len, k1, k2, k3, l1, l2, l3, l4]; done) | (simp <;> omega))) rfl rfl rfl ?_
 rintro _ h55 ⟨rfl, hx92, hb93⟩
 have hb94 : Buf h55 h2.size ((UB (cfmt name 100) (octf mode 8) (octf 0 8) (octf 0 8) (octf size 12) (octf 0 12) [t.toNat.toUInt8] (cfmt link 100) [117, 115, 116, 97, 114, 0, 48, 48] (zr 8) (zr 8) (cfmt pre 155)).flatten) := Buf.congr hb93 (by exact fl_splice (i := 5) (w := 12) rfl (by simp [UB, zr_len, k1, k2, k3, l1, l2, l3, l4]) (Nat.le_of_eq l4) (of_ok l4))
 refine L_nil (X_block (X_then ?_))
 refine W_sub _ (sk7 75 74 73 9 72 71 70 rfl rfl rfl rfl rfl rfl rfl (tk8 69 77 68 67 7 5 3 2)) ?_
 refine W_region ?_
 refine Ly (Y_addl (r := 3) rfl rfl (by decide) (by decide) (by decide)) ?_
 refine Mv ?_
 refine L_nil ?_
 refine X_round ?_
 refine Wr ?_
 refine Ly (Y_lss rfl rfl) ?_
 refine L_nil (X_then (W_seq ?_))
 refine W_known true rfl (by first | rfl | decide | simp) ?_
 refine W_skip (X_then (W_seq (W_block (W_seq (W_region ?_)))))
 refine Ly (Y_idxlit (off := 6) Tryz.underlying96 (show _ = some 2 by kernel_rfl) rfl rfl (by decide) (by decide) rfl) ?_
 have me17 := Nat.le_trans (Nat.le_trans me16 hn80.ext.size) hp82.only.size
 have hc95 := (((hc87.ext hn88.ext).only hp90.only (ni_lt (Nat.lt_of_lt_of_le hk71.lt (Nat.le_trans me17 hx84.size)))).only hx92 (ni_gt (Nat.lt_of_lt_of_le hb5.lt (Nat.le_trans (Nat.le_trans me15 hx64.size) hx67.size))))
 refine Ly (Y_ldbox (us := [.int .i64 329, .int .i64 8]) Tryz.underlying93 rfl (show _ = some 2 by kernel_rfl) rfl hc95 rfl) ?_
 refine L_mks (M_alloc (u := .agg #[.int .i64 0, .int .i64 0]) (by kernel_rfl)) rfl rfl rfl ?_
 rintro _ h56 ⟨rfl, hn96⟩
 have hk97 : Blk h56 h55.size [.int .i64 0, .int .i64 0] := hn96.blk
 refine L_dos (D_store (us := [.int .i64 329, .int .i64 8]) (show _ = some 2 by kernel_rfl) rfl rfl rfl (by simp [Value.oneCell']) hk97 (by simp)) rfl rfl ?_
 rintro h57 hp98
 have hk99 : Blk h57 h55.size [.int .i64 329, .int .i64 8] := hp98.blk
 refine L_nil (X_then (W_region ?_))
 refine Mv ?_
 refine Ly (Y_ldbox (us := [.int .i64 329, .int .i64 8]) Tryz.underlying93 rfl (show _ = some 2 by kernel_rfl) rfl hk99 rfl) ?_
 refine Mv ?_
 refine L_call (E_callv (fs := []) (cs := []) (by kernel_rfl) rfl rfl) (field_number _ 329 8 h2.size ((512 : Int).toNat) ((UB (cfmt name 100) (octf mode 8) (octf 0 8) (octf 0 8) (octf size 12) (octf 0 12) [t.toNat.toUInt8] (cfmt link 100) [117, 115, 116, 97, 114, 0, 48, 48] (zr 8) (zr 8) (cfmt pre 155)).flatten) (hb94.ext (hn96.ext.then' hp98.only (by simp) (Nat.le_refl _))) (0 : Int) (by first | omega | rfl | (simp [UB, zr_len, k1, k2, k3, l1, l2, l3, l4]; done) | (simp <;> omega)) (by first | omega | rfl | (simp [UB, zr_len, k1, k2, k3, l1, l2, l3, l4]; done) | (simp <;> omega)) (by first | omega | rfl | (simp [UB, zr_len, k1, k2, k3, l1, l2, l3, l4]; done) | (simp <;> omega)) (by first | omega | rfl | (simp [UB, zr_len, k1, k2, k3, l1, l2, l3, l4]; done) | (simp <;> omega)) (by first | omega | rfl | (simp [UB, zr_len, k1, k2, k3, l1, l2, l3, l4]; done) | (simp <;> omega))) rfl rfl rfl ?_
 rintro _ h58 ⟨rfl, hx100, hb101⟩
 have hb102 : Buf h58 h2.size ((UB (cfmt name 100) (octf mode 8) (octf 0 8) (octf 0 8) (octf size 12) (octf 0 12) [t.toNat.toUInt8] (cfmt link 100) [117, 115, 116, 97, 114, 0, 48, 48] (octf 0 8) (zr 8) (cfmt pre 155)).flatten) := Buf.congr hb101 (by exact fl_splice (i := 11) (w := 8) rfl (by simp [UB, zr_len, k1, k2, k3, l1, l2, l3, l4]) (Nat.le_of_eq l3) (of_ok l3))
 refine L_nil (X_block (X_then ?_))
 refine W_sub _ (sk7 75 74 73 9 72 71 70 rfl rfl rfl rfl rfl rfl rfl (tk8 69 77 68 67 7 5 3 2)) ?_
 refine W_region ?_
 refine Ly (Y_addl (r := 4) rfl rfl (by decide) (by decide) (by decide)) ?_
 refine Mv ?_
 refine L_nil ?_
 refine X_round ?_
 refine Wr ?_
 refine Ly (Y_lss rfl rfl) ?_
 refine L_nil (X_then (W_seq ?_))
 refine W_known true rfl (by first | rfl | decide | simp) ?_
 refine W_skip (X_then (W_seq (W_block (W_seq (W_region ?_)))))
 refine Ly (Y_idxlit (off := 8) Tryz.underlying96 (show _ = some 2 by kernel_rfl) rfl rfl (by decide) (by decide) rfl) ?_
 have me18 := Nat.le_trans (Nat.le_trans (Nat.le_trans me17 hx84.size) hn88.ext.size) hp90.only.size
 have hc103 := (((hc95.ext hn96.ext).only hp98.only (ni_lt (Nat.lt_of_lt_of_le hk71.lt (Nat.le_trans me18 hx92.size)))).only hx100 (ni_gt (Nat.lt_of_lt_of_le hb5.lt (Nat.le_trans (Nat.le_trans me15 hx64.size) hx67.size))))
 refine Ly (Y_ldbox (us := [.int .i64 337, .int .i64 8]) Tryz.underlying93 rfl (show _ = some 2 by kernel_rfl) rfl hc103 rfl) ?_
 refine L_mks (M_alloc (u := .agg #[.int .i64 0, .int .i64 0]) (by kernel_rfl)) rfl rfl rfl ?_
 rintro _ h59 ⟨rfl, hn104⟩
 have hk105 : Blk h59 h58.size [.int .i64 0, .int .i64 0] := hn104.blk
 refine L_dos (D_store (us := [.int .i64 337, .int .i64 8]) (show _ = some 2 by kernel_rfl) rfl rfl rfl (by simp [Value.oneCell']) hk105 (by simp)) rfl rfl ?_
 rintro h60 hp106
 have hk107 : Blk h60 h58.size [.int .i64 337, .int .i64 8] := hp106.blk
 refine L_nil (X_then (W_region ?_))
 refine Mv ?_
 refine Ly (Y_ldbox (us := [.int .i64 337, .int .i64 8]) Tryz.underlying93 rfl (show _ = some 2 by kernel_rfl) rfl hk107 rfl) ?_
 refine Mv ?_
 refine L_call (E_callv (fs := []) (cs := []) (by kernel_rfl) rfl rfl) (field_number _ 337 8 h2.size ((512 : Int).toNat) ((UB (cfmt name 100) (octf mode 8) (octf 0 8) (octf 0 8) (octf size 12) (octf 0 12) [t.toNat.toUInt8] (cfmt link 100) [117, 115, 116, 97, 114, 0, 48, 48] (octf 0 8) (zr 8) (cfmt pre 155)).flatten) (hb102.ext (hn104.ext.then' hp106.only (by simp) (Nat.le_refl _))) (0 : Int) (by first | omega | rfl | (simp [UB, zr_len, k1, k2, k3, l1, l2, l3, l4]; done) | (simp <;> omega)) (by first | omega | rfl | (simp [UB, zr_len, k1, k2, k3, l1, l2, l3, l4]; done) | (simp <;> omega)) (by first | omega | rfl | (simp [UB, zr_len, k1, k2, k3, l1, l2, l3, l4]; done) | (simp <;> omega)) (by first | omega | rfl | (simp [UB, zr_len, k1, k2, k3, l1, l2, l3, l4]; done) | (simp <;> omega)) (by first | omega | rfl | (simp [UB, zr_len, k1, k2, k3, l1, l2, l3, l4]; done) | (simp <;> omega))) rfl rfl rfl ?_
 rintro _ h61 ⟨rfl, hx108, hb109⟩
 have hb110 : Buf h61 h2.size ((UB (cfmt name 100) (octf mode 8) (octf 0 8) (octf 0 8) (octf size 12) (octf 0 12) [t.toNat.toUInt8] (cfmt link 100) [117, 115, 116, 97, 114, 0, 48, 48] (octf 0 8) (octf 0 8) (cfmt pre 155)).flatten) := Buf.congr hb109 (by exact fl_splice (i := 12) (w := 8) rfl (by simp [UB, zr_len, k1, k2, k3, l1, l2, l3, l4]) (Nat.le_of_eq l3) (of_ok l3))
 refine L_nil (X_block (X_then ?_))
 refine W_sub _ (sk7 75 74 73 9 72 71 70 rfl rfl rfl rfl rfl rfl rfl (tk8 69 77 68 67 7 5 3 2)) ?_
 refine W_region ?_
 refine Ly (Y_addl (r := 5) rfl rfl (by decide) (by decide) (by decide)) ?_
 refine Mv ?_
 refine L_nil ?_
 refine X_round ?_
 refine Wr ?_
 refine Ly (Y_lss rfl rfl) ?_
 refine L_nil (X_then (W_seq ?_))
 refine W_known false rfl (by first | rfl | decide | simp) ?_
 refine W_exit ?_
 refine X_then_exit (X_then_exit ?_)
 refine X_block_hit ?_
 refine X_then ?_
 refine W_sub _ (tk3 5 3 2) ?_
 refine Wr ?_
 refine Mv ?_
 refine L_call (E_call (by kernel_rfl) rfl) (checksum_Seal _ (.slice (some ⟨h2.size, 0, none⟩) (512 : Int).toNat (512 : Int).toNat) ((UB (cfmt name 100) (octf mode 8) (octf 0 8) (octf 0 8) (octf size 12) (octf 0 12) [t.toNat.toUInt8] (cfmt link 100) [117, 115, 116, 97, 114, 0, 48, 48] (octf 0 8) (octf 0 8) (cfmt pre 155)).flatten) (hb110.bytes (by simp [UB, zr_len, k1, k2, k3, l1, l2, l3, l4]))) rfl rfl rfl ?_
 rintro _ h62 ⟨s0111, rfl, hr0112, hx113⟩
 refine Ly (Y_extract (v := s0111) rfl rfl) ?_
 refine Ly (Y_extract (v := .int .i64 (serr ((UB (cfmt name 100) (octf mode 8) (octf 0 8) (octf 0 8) (octf size 12) (octf 0 12) [t.toNat.toUInt8] (cfmt link 100) [117, 115, 116, 97, 114, 0, 48, 48] (octf 0 8) (octf 0 8) (cfmt pre 155)).flatten))) rfl rfl) ?_
 refine Av ?_
 refine Av ?_
 refine Nx ?_
 refine W_sub _ (tk2 3 2) ?_
 refine W_ret ?_
 refine X_ret2 rfl rfl rfl ?_
 have me19 := Nat.le_trans (Nat.le_trans hn1.ext.size hx3.size) hx4.size
 have me20 := Nat.le_trans (Nat.le_trans (Nat.le_trans me19 hx14.size) hx15.size) hx26.size
 have me21 := Nat.le_trans (Nat.le_trans (Nat.le_trans me20 hx27.size) hx38.size) hx39.size
 have me22 := Nat.le_trans (Nat.le_trans (Nat.le_trans me21 hx43.size) hx44.size) hx59.size
 have me23 := Nat.le_trans (Nat.le_trans (Nat.le_trans me22 hx60.size) hx64.size) hx67.size
 have me24 := Nat.le_trans (Nat.le_trans me23 hn70.ext.size) hn72.ext.size
 have me25 := Nat.le_trans (Nat.le_trans (Nat.le_trans me24 hp74.only.size) hx76.size) hn80.ext.size
 have me26 := Nat.le_trans (Nat.le_trans (Nat.le_trans me25 hp82.only.size) hx84.size) hn88.ext.size
 have me27 := Nat.le_trans (Nat.le_trans (Nat.le_trans me26 hp90.only.size) hx92.size) hn96.ext.size
 have me28 := Nat.le_trans (Nat.le_trans me27 hp98.only.size) hx100.size
 have me29 := ((me11.trans hn70.ext).trans hn72.ext).then' hp74.only (by simp) (Nat.le_trans me23 hn70.ext.size)
 have me30 := me29.then' hx76 (by simp) (Nat.le_trans hn1.ext.size hx3.size)
 have me31 := (me30.trans hn80.ext).then' hp82.only (by simp) (Nat.le_trans (Nat.le_trans me24 hp74.only.size) hx76.size)
 have me32 := me31.then' hx84 (by simp) (Nat.le_trans hn1.ext.size hx3.size)
 have me33 := (me32.trans hn88.ext).then' hp90.only (by simp) (Nat.le_trans (Nat.le_trans me25 hp82.only.size) hx84.size)
 have me34 := me33.then' hx92 (by simp) (Nat.le_trans hn1.ext.size hx3.size)
 have me35 := (me34.trans hn96.ext).then' hp98.only (by simp) (Nat.le_trans (Nat.le_trans me26 hp90.only.size) hx92.size)
 have me36 := me35.then' hx100 (by simp) (Nat.le_trans hn1.ext.size hx3.size)
 have me37 := ((me36.trans hn104.ext).then' hp106.only (by simp) me28).then' hx108 (by simp) (Nat.le_trans hn1.ext.size hx3.size)
 refine ⟨_, by rw [e', show serr _ = 0 from by unfold serr; rw [if_pos (by simp [UB, zr_len, k1, k2, k3, l1, l2, l3, l4])]], ?_, (me37.trans hx113)⟩
 rw [← uenc_ub e']
 exact hr0112
end Go.Xp
