/- Layer 3 (checksum): the reference's functions. -/
import Derived.Test.YtknimfbagbkjfaaGreatDoorOct
set_option linter.unusedSimpArgs false
set_option linter.unusedVariables false
namespace Go.Xp
open Go.Proofs

/-! ### What the layer answers -/
def csumN (b : List UInt8) : Nat → Int
  | 0 => 0
  | i + 1 => csumN b i + (if 148 ≤ i ∧ i < 156 then 32 else byt b i)
theorem csumN_le (b : List UInt8) : ∀ i, 0 ≤ csumN b i ∧ csumN b i ≤ 255 * i
  | 0 => by simp [csumN]
  | i + 1 => by
    have h1 := csumN_le b i
    have h2 := byt_lt b i
    unfold csumN
    split <;> omega
def serr (b : List UInt8) : Int := if b.length = 512 then 0 else 2
def ssum (b : List UInt8) : Int := if b.length = 512 then csumN b 512 else 0
theorem ssum_le (b : List UInt8) : 0 ≤ ssum b ∧ ssum b ≤ 130560 := by
  have := csumN_le b 512
  unfold ssum; split <;> omega
def sseal (b : List UInt8) : List UInt8 := if b.length = 512 then b.take 148 ++ octf (ssum b) 7 ++ [32] ++ b.drop 156 else []
def sver (b : List UInt8) : Int := if b.length = 512 then (if sseal b = b then 0 else 9) else 2
theorem oct7 {n : Int} (h : 0 ≤ n ∧ n ≤ 130560) : oerr n 7 = 0 ∧ octf n 7 = octD n.toNat 6 ++ [0] := by
  have he : oerr n 7 = 0 := by unfold oerr omax; rw [if_neg (by omega), if_neg (by simp; omega)]
  exact ⟨he, by unfold octf; rw [if_pos he]; rfl⟩
theorem oct7_len (b : List UInt8) : (octf (ssum b) 7).length = 7 := by
  rw [(oct7 (ssum_le b)).2]; simp [octD_length]
theorem sseal_len {b : List UInt8} (h : b.length = 512) : (sseal b).length = 512 := by
  unfold sseal
  rw [if_pos h]
  simp only [List.length_append, List.length_take, List.length_drop, oct7_len, List.length_cons, List.length_nil]
  omega

set_option maxRecDepth 100000 in
theorem ref03_Sum (h : Heap) (v : Value) (b : List UInt8) (hb : Bytes h v b) : Cal Tryz.prog 100 #[v] h (fun v h' => v = .tuple #[.int .i64 (ssum b), .int .i64 (serr b)] ∧ h' = h) := by
 refine Cal_enter (args := [v]) Tryz.func100 rfl rfl rfl (fun σ => ?_)
 refine Wr ?_
 refine Av ?_
 refine Av ?_
 refine L_nil (X_then (W_seq (W_seq (W_region ?_))))
 refine Mv ?_
 refine Ly (Y_len Tryz.underlying33 rfl hb) ?_
 refine Ly (Y_neq rfl rfl) ?_
 refine Nx ?_
 refine W_sub _ (tk4 8 3 2 0) ?_
 refine W_splitd rfl (fun g => ?_) (fun g => ?_)
 ·refine Wr ?_
  refine Av ?_
  refine Av ?_
  refine Nx ?_
  refine W_sub _ (tk3 3 2 0) ?_
  refine W_ret (X_then_ret ?_)
  refine X_ret2 rfl rfl rfl ?_
  exact ⟨by unfold ssum serr; rw [if_neg (by omega), if_neg (by omega)], rfl⟩
 refine Ws ?_
 refine W_sub _ (tk3 3 2 0) ?_
 refine Wr ?_
 refine Av ?_
 refine L_nil (X_then (W_seq (W_seq (W_region ?_))))
 refine Av ?_
 refine L_nil (X_then (W_block ?_))
 refine W_loop (S := Nat) (fun i => [(3, .int .i64 0), (2, .int .i64 0), (0, v), (4, .int .i64 (csumN b i)), (5, .int .i64 ((i : Int)))]) (fun i h' => i ≤ 512 ∧ h' = h) (fun i => 512 - i) 0 (tk5 3 2 0 4 5) ?_ ?_
 ·exact ⟨Nat.zero_le _, rfl⟩
 rintro i h ⟨hi, rfl⟩
 show W _ _ _ _ _ [(3, .int .i64 0), (2, .int .i64 0), (0, v), (4, .int .i64 (csumN b i)), (5, .int .i64 ((i : Int)))] _
 refine W_seq (W_seq (W_region ?_))
 refine Mv ?_
 refine Ly (Y_lss rfl rfl) ?_
 refine Nx ?_
 refine W_sub _ (tk6 10 3 2 0 4 5) ?_
 refine W_splitd rfl (fun hl => ?_) (fun hl => ?_)
 ·refine Ws ?_
  refine W_sub _ (tk5 3 2 0 4 5) ?_
  have hcn := csumN_le b i
  have hbl := byt_lt b (i : Int).toNat
  have hstep : csumN b (i + 1) = csumN b i + (if 148 ≤ i ∧ i < 156 then 32 else byt b i) := rfl
  refine W_seq (W_block ?_)
  refine W_cut (S := Unit) (fun _ => [(18, .bool (decide ((148 ≤ (i : Int)) ∧ ((i : Int) < 156)))), (3, .int .i64 0), (2, .int .i64 0), (0, v), (4, .int .i64 (csumN b i)), (5, .int .i64 ((i : Int)))]) (fun _ h' => h' = h) ?_ ?_
  ·refine W_region ?_
   refine Mv ?_
   refine Ly (Y_geq rfl rfl) ?_
   refine Mv ?_
   refine L_splitd (d := 15) rfl (fun c1 => ?_) (fun c1 => ?_)
   ·refine Ly (Y_move rfl) ?_
    refine Ly (Y_lss rfl rfl) ?_
    refine Ly (Y_pick_t rfl rfl) ?_
    refine L_nil ?_
    exact X_cut () (sk1 18 (lkb rfl (by first | (simp only [eq_true c1, SB]; done) | (simp only [eq_true c1, SB]; rfl))) (sk1 3 rfl (sk1 2 rfl (sk1 0 rfl (sk1 4 rfl (tk1 5)))))) rfl
   refine Skp ?_
   refine Skp ?_
   refine Ly (Y_pick_f rfl rfl) ?_
   refine L_nil ?_
   exact X_cut () (sk1 18 (lkb rfl (by first | (simp only [eq_false c1, SB]; done) | (simp only [eq_false c1, SB]; rfl))) (sk1 3 rfl (sk1 2 rfl (sk1 0 rfl (sk1 4 rfl (tk1 5)))))) rfl
  rintro _ h rfl
  show W _ _ _ _ _ [(18, .bool (decide ((148 ≤ (i : Int)) ∧ ((i : Int) < 156)))), (3, .int .i64 0), (2, .int .i64 0), (0, v), (4, .int .i64 (csumN b i)), (5, .int .i64 ((i : Int)))] _
  refine W_splitd rfl (fun hs => ?_) (fun hs => ?_)
  ·refine W_region ?_
   refine Mv ?_
   refine Ly (Y_add rfl rfl (by omega) (by omega)) ?_
   refine Av ?_
   refine L_nil (X_block (X_then ?_))
   refine W_sub _ (tk5 4 3 2 0 5) ?_
   refine W_region ?_
   refine Mv ?_
   refine Ly (Y_add rfl rfl (by omega) (by omega)) ?_
   refine Av ?_
   refine L_nil ?_
   refine X_loop (i + 1) (sk3 3 2 0 rfl rfl rfl (sk1 4 (lki rfl (by rw [hstep, if_pos (by omega)])) (tk1 5))) ?_ ?_
   ·exact ⟨by omega, rfl⟩
   (try dsimp only)
   omega
  refine W_region ?_
  refine Mv ?_
  refine Mv ?_
  refine Mv ?_
  refine Ly (Y_idx Tryz.underlying33 (show _ = some 1 by kernel_rfl) rfl rfl hb (by omega) (by omega)) ?_
  refine Ly (Y_ldbyte Tryz.underlying5 rfl rfl hb (by omega) (by omega)) ?_
  refine Ly (Y_convs Tryz.underlying5 Tryz.underlying3 rfl (wrap_i64 (by omega) (by omega))) ?_
  refine Ly (Y_add rfl rfl (by omega) (by omega)) ?_
  refine Av ?_
  refine L_nil (X_block (X_then ?_))
  refine W_sub _ (tk5 4 3 2 0 5) ?_
  refine W_region ?_
  refine Mv ?_
  refine Ly (Y_add rfl rfl (by omega) (by omega)) ?_
  refine Av ?_
  refine L_nil ?_
  refine X_loop (i + 1) (sk3 3 2 0 rfl rfl rfl (sk1 4 (lki rfl (by rw [hstep, if_neg (by omega)]; rfl)) (tk1 5))) ?_ ?_
  ·exact ⟨by omega, rfl⟩
  (try dsimp only)
  omega
 refine W_exit ?_
 refine X_then_exit (X_then_exit ?_)
 refine X_block_hit ?_
 refine X_then ?_
 refine W_sub _ (tk3 3 2 4) ?_
 refine Wr ?_
 refine Mv ?_
 refine Av ?_
 refine Av ?_
 refine Nx ?_
 refine W_sub _ (tk2 3 2) ?_
 refine W_ret ?_
 refine X_ret2 rfl rfl rfl ?_
 have hi5 : i = 512 := by omega
 subst hi5
 exact ⟨by unfold ssum serr; rw [if_pos (by omega), if_pos (by omega)], rfl⟩

set_option maxRecDepth 100000 in
theorem ref03_Seal (h : Heap) (v : Value) (b : List UInt8) (hb : Bytes h v b) : Cal Tryz.prog 76 #[v] h (fun v h' => ∃ s0, v = .tuple #[s0, .int .i64 (serr b)] ∧ Bytes h' s0 (sseal b) ∧ Ext h h') := by
 have hs1 := ssum_le b
 have hs2 := oct7_len b
 refine Cal_enter (args := [v]) Tryz.func76 rfl rfl rfl (fun σ => ?_)
 refine Wr ?_
 refine Av ?_
 refine Av ?_
 refine L_nil (X_then (W_seq (W_region ?_)))
 refine Mv ?_
 refine L_call (E_call (by kernel_rfl) rfl) (ref03_Sum _ v b hb) rfl rfl rfl ?_
 rintro _ h ⟨rfl, rfl⟩
 refine Mv ?_
 refine Ly (Y_extract (v := .int .i64 (ssum b)) rfl rfl) ?_
 refine Ly (Y_extract (v := .int .i64 (serr b)) rfl rfl) ?_
 refine Av ?_
 refine Av ?_
 refine Nx ?_
 refine W_sub _ (tk5 5 4 3 2 0) ?_
 refine W_seq (W_seq (W_region ?_))
 refine Mv ?_
 refine Ly (Y_neq rfl rfl) ?_
 refine Nx ?_
 refine W_sub _ (tk6 15 5 4 3 2 0) ?_
 refine W_splitd rfl (fun g => ?_) (fun g => ?_)
 ·refine Wr ?_
  refine Mv ?_
  refine Av ?_
  refine Av ?_
  refine Nx ?_
  refine W_sub _ (tk4 3 2 4 0) ?_
  refine W_ret (X_then_ret ?_)
  refine X_ret2 rfl rfl rfl ?_
  have hl : ¬ b.length = 512 := fun h9 => g (by unfold serr; rw [if_pos h9])
  refine ⟨_, rfl, ?_, (Ext.refl _)⟩
  unfold sseal
  rw [if_neg hl]
  exact Bytes.nil _
 refine Ws ?_
 refine W_sub _ (tk4 4 3 2 0) ?_
 have hl : b.length = 512 := by apply Decidable.byContradiction; intro h9; apply g; unfold serr; rw [if_neg h9]; decide
 refine Wr ?_
 refine Mv ?_
 refine L_call (E_call (by kernel_rfl) rfl) (ref01_Format _ (ssum b) (7 : Int) (by first | omega | rfl | (simp <;> omega))) rfl rfl rfl ?_
 rintro _ h1 ⟨s01, rfl, hr02, hx3⟩
 refine Mv ?_
 refine Ly (Y_extract (v := s01) rfl rfl) ?_
 refine Ly (Y_extract (v := .int .i64 (oerr (ssum b) (7 : Int))) rfl rfl) ?_
 refine Av ?_
 refine Av ?_
 refine Nx ?_
 refine W_sub _ (tk4 6 3 2 0) ?_
 refine Wr ?_
 refine L_mks (M_litb (l := ([] : List UInt8)) (cells := []) (pv := []) (E := 5) (evp (is := []) (os := []) (vs := []) rfl rfl) rfl rfl (fun _ => by kernel_rfl)) rfl rfl rfl ?_
 rintro v4 h2 ⟨ho5, hx6⟩
 refine Mv ?_
 have hb7 : Bytes h2 (slcut 1 0 (148 : Int).toNat v) (b.take 148) := Bytes.cuth (hb.ext (hx3.trans hx6)) (by omega) 
 refine Ly (Y_cut_h Tryz.underlying33 (show _ = some 1 by kernel_rfl) rfl (hb.ext (hx3.trans hx6)) rfl (by omega) (by omega)) ?_
 refine L_mks (M_appb Tryz.underlying33 (by unfold elemRow; kernel_rfl) rfl rfl ho5 hb7 hx6.size (by first | omega | (simp; omega))) rfl rfl rfl ?_
 rintro v8 h3 ha9
 refine Av ?_
 refine Nx ?_
 refine W_sub _ (tk5 8 6 3 2 0) ?_
 refine Wr ?_
 refine Mv ?_
 refine Mv ?_
 refine L_mks (M_appb Tryz.underlying33 (by unfold elemRow; kernel_rfl) rfl rfl ha9.own (hr02.ext (hx6.then' ha9.only ha9.ge (Nat.le_refl _))) (Nat.le_trans hx6.size ha9.only.size) (by first | omega | (simp; omega))) rfl rfl rfl ?_
 rintro v10 h4 ha11
 refine Av ?_
 refine Nx ?_
 refine W_sub _ (tk4 8 3 2 0) ?_
 refine Wr ?_
 refine Mv ?_
 refine L_mks (M_litb (l := [32]) (cells := [.int .u8 32]) (pv := [(0, .int .u8 32)]) (E := 5) (evp (is := [0]) (os := [.const (.int .u8 32)]) (vs := [.int .u8 32]) rfl rfl) rfl rfl (fun _ => by kernel_rfl)) rfl rfl rfl ?_
 rintro v12 h5 ⟨ho13, hx14⟩
 have me1 := Nat.le_trans (Nat.le_trans hx6.size ha9.only.size) ha11.only.size
 refine L_mks (M_appb Tryz.underlying33 (by unfold elemRow; kernel_rfl) rfl rfl (ha11.own.ext hx14) ho13.bytes (Nat.le_trans me1 hx14.size) (by first | omega | (simp; omega))) rfl rfl rfl ?_
 rintro v15 h6 ha16
 refine Av ?_
 refine Nx ?_
 refine W_sub _ (tk4 8 3 2 0) ?_
 refine Wr ?_
 refine Mv ?_
 refine Mv ?_
 have me2 := ((hx3.trans hx6).then' ha9.only ha9.ge hx3.size).then' ha11.only ha11.ge hx3.size
 have hb17 : Bytes h6 (slcut 1 (156 : Int).toNat b.length v) (b.drop 156) := Bytes.cutl (hb.ext ((me2.trans hx14).then' ha16.only ha16.ge hx3.size)) (by omega) 
 refine Ly (Y_cut_l Tryz.underlying33 (show _ = some 1 by kernel_rfl) rfl (hb.ext ((me2.trans hx14).then' ha16.only ha16.ge hx3.size)) rfl (by omega) (by omega)) ?_
 refine L_mks (M_appb Tryz.underlying33 (by unfold elemRow; kernel_rfl) rfl rfl ha16.own hb17 (Nat.le_trans (Nat.le_trans me1 hx14.size) ha16.only.size) (by first | omega | (simp; omega))) rfl rfl rfl ?_
 rintro v18 h7 ha19
 refine Av ?_
 refine Av ?_
 refine Nx ?_
 refine W_sub _ (tk2 3 2) ?_
 refine W_ret ?_
 refine X_ret2 rfl rfl rfl ?_
 have he : serr b = 0 := by unfold serr; rw [if_pos hl]
 have me3 := ((me2.trans hx14).then' ha16.only ha16.ge hx3.size).then' ha19.only ha19.ge hx3.size
 refine ⟨_, by rw [he], ?_, me3⟩
 unfold sseal
 rw [if_pos hl]
 exact ha19.own.bytes


end Go.Xp
