/- Layer 1 (octal): the program's functions and the reference's. -/
import Derived.Test.YtknimfbagbkjfaaGreatDoorCstr
import Derived.Test.YtknimfbagbkjfaaGreatDoorBox
set_option linter.unusedSimpArgs false
set_option linter.unusedVariables false
namespace Go.Xp
open Go.Proofs

/-! ### What the layer answers -/
/-- The last 'k' octal digits of 'n'. -/
def octD (n : Nat) : Nat → List UInt8
  | 0 => []
  | k + 1 => octD (n / 8) k ++ [(48 + n % 8).toUInt8]
theorem octD_length : ∀ (k n : Nat), (octD n k).length = k
  | 0, _ => rfl
  | k + 1, n => by simp [octD, octD_length k]
theorem octD_cons : ∀ (k n : Nat), octD n (k + 1) = (48 + n / 8 ^ k % 8).toUInt8 :: octD n k
  | 0, n => by simp [octD]
  | k + 1, n => by
    rw [octD, octD_cons k (n / 8)]
    rw [show octD n (k + 1) = octD (n / 8) k ++ [(48 + n % 8).toUInt8] from rfl, Nat.div_div_eq_div_mul, Nat.pow_succ, Nat.mul_comm 8]
    rfl
def omax (w : Int) : Int := if 2 ≤ w ∧ w ≤ 22 then 8 ^ (w.toNat - 1) - 1 else 0
def oerr (n w : Int) : Int := if ¬ (2 ≤ w ∧ w ≤ 22) then 2 else if n < 0 ∨ omax w < n then 3 else 0
def octf (n w : Int) : List UInt8 := if oerr n w = 0 then octD n.toNat (w.toNat - 1) ++ [0] else []
theorem pow8_le {k : Nat} (h : k ≤ 21) : (8 : Int) ^ k ≤ 9223372036854775808 := by
  have h1 : 8 ^ k ≤ 8 ^ 21 := Nat.pow_le_pow_right (by decide) h
  have h2 := Int.ofNat_le.2 h1
  have h3 : ((8 ^ k : Nat) : Int) = (8 : Int) ^ k := Int.natCast_pow 8 k
  rw [h3] at h2
  simpa using h2
theorem pow8_pos (k : Nat) : (1 : Int) ≤ 8 ^ k := by
  have : (0 : Int) < 8 ^ k := Int.pow_pos (by decide)
  omega

set_option maxRecDepth 100000 in
theorem octal_valid (h : Heap) (w : Int) : Cal Tryz.prog 87 #[.int .i64 (w)] h (fun v h' => v = .bool (decide (2 ≤ w ∧ w ≤ 22)) ∧ h' = h) := by
 refine Cal_enter (args := [.int .i64 (w)]) Tryz.func87 rfl rfl rfl (fun σ => ?_)
 refine Wr ?_
 refine Av ?_
 refine Nx ?_
 refine W_cut (S := Unit) (fun _ => [(2, .bool (decide ((2 ≤ w) ∧ (w ≤ 22))))]) (fun _ h' => h' = h) ?_ ?_
 ·refine W_region ?_
  refine Mv ?_
  refine Ly (Y_geq rfl rfl) ?_
  refine Mv ?_
  refine L_splitd (d := 5) rfl (fun c1 => ?_) (fun c1 => ?_)
  ·refine Ly (Y_move rfl) ?_
   refine Ly (Y_leq rfl rfl) ?_
   refine Ly (Y_pick_t rfl rfl) ?_
   refine Av ?_
   refine L_nil ?_
   exact X_cut () (sk1 2 (lkb rfl (by first | (simp only [eq_true c1, SB]; done) | (simp only [eq_true c1, SB]; rfl))) sN) rfl
  refine Skp ?_
  refine Skp ?_
  refine Ly (Y_pick_f rfl rfl) ?_
  refine Av ?_
  refine L_nil ?_
  exact X_cut () (sk1 2 (lkb rfl (by first | (simp only [eq_false c1, SB]; done) | (simp only [eq_false c1, SB]; rfl))) sN) rfl
 rintro _ h rfl
 show W _ _ _ _ _ [(2, .bool (decide ((2 ≤ w) ∧ (w ≤ 22))))] _
 refine W_ret ?_
 refine X_ret1 rfl rfl ?_
 exact ⟨rfl, rfl⟩

theorem pow_two_eight (k : Nat) : (1 : Int) * 2 ^ (3 * k) = 8 ^ k := by
  rw [Int.pow_mul, Int.one_mul]; rfl

set_option maxRecDepth 100000 in
theorem octal_Max (h : Heap) (w : Int) : Cal Tryz.prog 88 #[.int .i64 (w)] h (fun v h' => v = .int .i64 (omax w) ∧ h' = h) := by
 have hpw : 2 ≤ w → (1 : Int) * 2 ^ (3 * (w - 1)).toNat = 8 ^ (w.toNat - 1) := fun h => by rw [← pow_two_eight]; congr 2; omega
 have hp1 := pow8_pos (w.toNat - 1)
 refine Cal_enter (args := [.int .i64 (w)]) Tryz.func88 rfl rfl rfl (fun σ => ?_)
 refine Wr ?_
 refine Av ?_
 refine L_nil (X_then (W_seq (W_seq (W_region ?_))))
 refine Mv ?_
 refine L_call (E_call (by kernel_rfl) rfl) (octal_valid _ w) rfl rfl rfl ?_
 rintro _ h ⟨rfl, rfl⟩
 refine Ly (Y_notd rfl) ?_
 refine Nx ?_
 refine W_sub _ (tk3 5 2 0) ?_
 refine W_splitd rfl (fun g => ?_) (fun g => ?_)
 ·refine Wr ?_
  refine Av ?_
  refine Nx ?_
  refine W_sub _ (tk2 2 0) ?_
  refine W_ret (X_then_ret ?_)
  refine X_ret1 rfl rfl ?_
  exact ⟨by unfold omax; rw [if_neg (by omega)], rfl⟩
 refine Ws ?_
 refine W_sub _ (tk2 2 0) ?_
 refine Wr ?_
 refine Mv ?_
 refine Ly (Y_sub rfl rfl (by omega) (by omega)) ?_
 refine Ly (Y_mul rfl rfl (by omega) (by omega)) ?_
 refine Ly (Y_shlu rfl rfl (by omega) (by omega) (by rw [hpw (by omega)]; have := pow8_le (k := w.toNat - 1) (by omega); omega) (by rw [hpw (by omega)]; have := pow8_le (k := w.toNat - 1) (by omega); omega)) ?_
 refine Ly (Y_subw rfl rfl) ?_
 refine Ly (Y_conv Tryz.underlying136 Tryz.underlying2 rfl) ?_
 refine Av ?_
 refine Nx ?_
 refine W_sub _ (tk1 2) ?_
 refine W_ret ?_
 refine X_ret1 rfl rfl ?_
 refine ⟨?_, rfl⟩
 have hp2 := pow8_le (k := w.toNat - 1) (by omega)
 rw [hpw (by omega), IntKind.wrap_u64, Int.emod_eq_of_lt (by omega) (by omega), wrap_i64 (by omega) (by omega)]
 unfold omax
 rw [if_pos (by omega)]

theorem div_step (n : Int) (i : Nat) : n / 8 ^ i / 2 ^ (Int.toNat 3) = n / 8 ^ (i + 1) := by
  rw [Int.ediv_ediv_of_nonneg (Int.le_of_lt (Int.pow_pos (by decide))), Int.pow_succ]; rfl
theorem oct_set (N m i : Nat) (hm : 1 ≤ m) (d : UInt8) (hd : d = (48 + N / 8 ^ i % 8).toUInt8) : (List.replicate m 0 ++ octD N i ++ [0]).set (m - 1) d = List.replicate (m - 1) 0 ++ octD N (i + 1) ++ [0] := by
  obtain ⟨j, rfl⟩ : ∃ j, m = j + 1 := ⟨m - 1, by omega⟩
  rw [octD_cons, ← hd, List.replicate_succ', Nat.add_sub_cancel]
  simp
theorem oct_digit {n : Int} (hn : 0 ≤ n) (i : Nat) : (48 + n / 8 ^ i % 8).toNat.toUInt8 = (48 + n.toNat / 8 ^ i % 8).toUInt8 := by
  congr 1
  have h1 : ((n.toNat / 8 ^ i : Nat) : Int) = n / 8 ^ i := by rw [Int.natCast_ediv, Int.toNat_of_nonneg hn, Int.natCast_pow]; rfl
  omega

set_option maxRecDepth 100000 in
theorem octal_Format (h : Heap) (n : Int) (w : Int) (hn : n ≤ 9223372036854775807) : Cal Tryz.prog 62 #[.int .i64 (n), .int .i64 (w)] h (fun v h' => ∃ s0, v = .tuple #[s0, .int .i64 (oerr n w)] ∧ Bytes h' s0 (octf n w) ∧ Ext h h') := by
 refine Cal_enter (args := [.int .i64 (n), .int .i64 (w)]) Tryz.func62 rfl rfl rfl (fun σ => ?_)
 refine Wr ?_
 refine Av ?_
 refine Av ?_
 refine L_nil (X_then (W_seq (W_block (W_seq (W_region ?_)))))
 refine Mv ?_
 refine L_call (E_call (by kernel_rfl) rfl) (octal_valid _ w) rfl rfl rfl ?_
 rintro _ h ⟨rfl, rfl⟩
 refine Ly (Y_notd rfl) ?_
 refine Av ?_
 refine Nx ?_
 refine W_sub _ (tk5 8 5 4 0 1) ?_
 refine W_splitd rfl (fun g1 => ?_) (fun g1 => ?_)
 ·refine Wr ?_
  refine Av ?_
  refine Av ?_
  refine Nx ?_
  refine W_sub _ (tk4 5 4 0 1) ?_
  refine W_ret (X_block_ret (X_then_ret ?_))
  refine X_ret2 rfl rfl rfl ?_
  have he : oerr n w = 2 := by unfold oerr; rw [if_pos (by omega)]
  refine ⟨_, by rw [he], ?_, (Ext.refl _)⟩
  unfold octf
  rw [if_neg (by rw [he]; decide)]
  exact Bytes.nil _
 refine W_cut (S := Unit) (fun _ => [(12, .bool (decide ((n < 0) ∨ ((omax w) < n)))), (5, .int .i64 0), (4, .slice none 0 0), (0, .int .i64 (n)), (1, .int .i64 (w))]) (fun _ h' => h' = h) ?_ ?_
 ·refine W_region ?_
  refine Mv ?_
  refine Ly (Y_lss rfl rfl) ?_
  refine Mv ?_
  refine L_splitd (d := 15) rfl (fun c1 => ?_) (fun c1 => ?_)
  ·refine Skp ?_
   refine Skp ?_
   refine Skp ?_
   refine Skp ?_
   refine Ly (Y_pick_t rfl rfl) ?_
   refine Av ?_
   refine L_nil ?_
   exact X_cut () (sk1 12 (lkb rfl (by first | (simp only [eq_true c1, SB]; done) | (simp only [eq_true c1, SB]; rfl))) (sk1 5 rfl (sk1 4 rfl (sk1 0 rfl (tk1 1))))) rfl
  refine Ly (Y_move rfl) ?_
  refine Mv ?_
  refine L_call (E_call (by kernel_rfl) rfl) (octal_Max _ w) rfl rfl rfl ?_
  rintro _ h ⟨rfl, rfl⟩
  refine Ly (Y_gtr rfl rfl) ?_
  refine Ly (Y_pick_f rfl rfl) ?_
  refine Av ?_
  refine L_nil ?_
  exact X_cut () (sk1 12 (lkb rfl (by first | (simp only [eq_false c1, SB]; done) | (simp only [eq_false c1, SB]; rfl))) (sk1 5 rfl (sk1 4 rfl (sk1 0 rfl (tk1 1))))) rfl
 rintro _ h rfl
 show W _ _ _ _ _ [(12, .bool (decide ((n < 0) ∨ ((omax w) < n)))), (5, .int .i64 0), (4, .slice none 0 0), (0, .int .i64 (n)), (1, .int .i64 (w))] _
 refine W_splitd rfl (fun g2 => ?_) (fun g2 => ?_)
 ·refine Wr ?_
  refine Av ?_
  refine Av ?_
  refine Nx ?_
  refine W_sub _ (tk4 5 4 0 1) ?_
  refine W_ret (X_block_ret (X_then_ret ?_))
  refine X_ret2 rfl rfl rfl ?_
  have he : oerr n w = 3 := by unfold oerr; rw [if_neg (by omega), if_pos g2]
  refine ⟨_, by rw [he], ?_, (Ext.refl _)⟩
  unfold octf
  rw [if_neg (by rw [he]; decide)]
  exact Bytes.nil _
 refine W_skip (X_block (X_then ?_))
 refine W_sub _ (tk4 5 4 0 1) ?_
 have he : oerr n w = 0 := by unfold oerr; rw [if_neg (by omega), if_neg g2]
 refine Wr ?_
 refine Mv ?_
 refine L_mks (M_makeb Tryz.underlying33 (by unfold elemRow; kernel_rfl) rfl rfl rfl (by omega) (by omega)) rfl rfl rfl ?_
 rintro _ h1 ⟨rfl, hx2, hb3⟩
 refine Av ?_
 refine Nx ?_
 refine W_sub _ (tk5 6 5 4 0 1) ?_
 refine W_seq (W_seq (W_region ?_))
 refine Mv ?_
 refine Ly (Y_sub rfl rfl (by omega) (by omega)) ?_
 refine Mv ?_
 refine Nx ?_
 refine W_sub _ (tk7 25 24 6 5 4 0 1) ?_
 refine W_block ?_
 refine W_loop (S := Nat) (fun i => [(24, .int .i64 (w - 1)), (5, .int .i64 0), (4, .slice none 0 0), (1, .int .i64 (w)), (0, .int .i64 (n / 8 ^ i)), (6, .slice (some ⟨h.size, 0, none⟩) w.toNat w.toNat), (25, .int .i64 ((i : Int)))]) (fun i h' => (i + 1 : Int) ≤ w ∧ Buf h' h.size (List.replicate (w.toNat - 1 - i) 0 ++ octD n.toNat i ++ [0]) ∧ Ext h h') (fun i => w.toNat - i) 0 (sk4 24 5 4 1 rfl rfl rfl rfl (sk1 0 (lki rfl (by simp)) (tk2 6 25))) ?_ ?_
 ·exact ⟨by omega, Buf.congr hb3 (by rw [show w.toNat = (w.toNat - 1 - 0) + 1 by omega, List.replicate_succ']; simp [octD]), hx2⟩
 rintro i h2 ⟨hi, hb, hx⟩
 show W _ _ _ _ _ [(24, .int .i64 (w - 1)), (5, .int .i64 0), (4, .slice none 0 0), (1, .int .i64 (w)), (0, .int .i64 (n / 8 ^ i)), (6, .slice (some ⟨h.size, 0, none⟩) w.toNat w.toNat), (25, .int .i64 ((i : Int)))] _
 refine Wr ?_
 refine Ly (Y_lss rfl rfl) ?_
 refine L_nil (X_then (W_seq ?_))
 refine W_splitd rfl (fun hl => ?_) (fun hl => ?_)
 ·refine Ws ?_
  refine W_sub _ (tk7 24 5 4 1 0 6 25) ?_
  refine W_seq (W_block (W_seq (W_region ?_)))
  refine Mv ?_
  refine Av ?_
  refine Nx ?_
  refine W_sub _ (tk8 7 24 5 4 1 0 6 25) ?_
  have hnn : 0 ≤ n / 8 ^ i ∧ n / 8 ^ i ≤ n := ⟨Int.ediv_nonneg (by omega) (Int.le_of_lt (Int.pow_pos (by decide))), Int.ediv_le_self _ (by omega)⟩
  have hll : (List.replicate (w.toNat - 1 - i) (0 : UInt8) ++ octD n.toNat i ++ [0]).length = w.toNat := by simp [octD_length]; omega
  refine Wr ?_
  refine Mv ?_
  refine Mv ?_
  refine Ly (Y_sub rfl rfl (by omega) (by omega)) ?_
  refine Mv ?_
  refine Ly (Y_sub rfl rfl (by omega) (by omega)) ?_
  refine Mv ?_
  refine Ly (Y_and7 rfl rfl (by omega) (by omega)) ?_
  refine Ly (Y_convs Tryz.underlying2 Tryz.underlying5 rfl (wrap_u8 (by omega) (by omega))) ?_
  refine Ly (Y_addu8 rfl rfl (by omega) (by omega)) ?_
  refine Ly (Y_idx Tryz.underlying33 (show _ = some 1 by kernel_rfl) rfl rfl (hb.bytes (by first | (simp; done) | (simp [octD_length]; omega))) (by omega) (by omega)) ?_
  refine L_dos (D_storee (show _ = some 1 by kernel_rfl) rfl rfl (by omega) hb (by omega)) rfl rfl ?_
  rintro h3 ⟨hx4, hs5, hb6⟩
  refine Nx ?_
  refine W_sub _ (tk7 24 5 4 1 0 6 25) ?_
  refine W_region ?_
  refine Mv ?_
  refine Ly (Y_shr rfl rfl (by omega) (by omega)) ?_
  refine Av ?_
  refine L_nil (X_block (X_then ?_))
  refine W_sub _ (tk7 0 24 5 4 1 6 25) ?_
  refine W_region ?_
  refine Ly (Y_add rfl rfl (by omega) (by omega)) ?_
  refine Mv ?_
  refine L_nil ?_
  refine X_loop (i + 1) (sk4 24 5 4 1 rfl rfl rfl rfl (sk1 0 (lki rfl (by exact div_step n i)) (tk2 6 25))) ?_ ?_
  ·exact ⟨by omega, Buf.congr hb6 (by rw [show (w - 2 - (i : Int)).toNat = (w.toNat - 1 - i) - 1 by omega, show w.toNat - 1 - (i + 1) = (w.toNat - 1 - i) - 1 by omega]; exact oct_set _ _ _ (by omega) _ (oct_digit (by omega) i)), (hx.then' hx4 (by simp) (Nat.le_refl _))⟩
  (try dsimp only)
  omega
 refine W_exit ?_
 refine X_then_exit (X_then_exit ?_)
 refine X_block_hit ?_
 refine X_then ?_
 refine W_sub _ (tk3 5 4 6) ?_
 refine Wr ?_
 refine Mv ?_
 refine Av ?_
 refine Av ?_
 refine Nx ?_
 refine W_sub _ (tk2 5 4) ?_
 refine W_ret ?_
 refine X_ret2 rfl rfl rfl ?_
 refine ⟨_, by rw [he], ?_, hx⟩
 unfold octf
 rw [if_pos he]
 refine Bytes.congr (hb.bytes (by first | (simp; done) | (simp [octD_length]; omega))) ?_
 have hwi : w.toNat - 1 = i := by omega
 rw [hwi]; simp

/-! ### Parse -/
end Go.Xp
