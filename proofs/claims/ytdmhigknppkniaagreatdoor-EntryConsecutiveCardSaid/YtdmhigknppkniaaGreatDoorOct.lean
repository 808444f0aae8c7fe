/- Layer 1 (octal): the program's functions and the reference's. -/
import Derived.Test.YtdmhigknppkniaaGreatDoorCstr
import Derived.Test.YtdmhigknppkniaaGreatDoorBits
set_option linter.unusedSimpArgs false
set_option linter.unusedVariables false
set_option maxRecDepth 100000
namespace Go.Xp
open Go.Proofs

/-! ### What the layer answers -/
/-- The last 'k' octal digits of 'n'. -/
def octD (n : Nat) : Nat → List UInt8
  | 0 => []
  | k + 1 => octD (n / 8) k ++ [(48 + n % 8).toUInt8]
theorem octD_length : ∀ (k n : Nat), (octD n k).length = k
  | 0, _ => rfl
  | k + 1, n => by simp [octD, octD_length k]
theorem octD_cons : ∀ (k n : Nat), octD n (k + 1) = (48 + n / 8 ^ k % 8).toUInt8 :: octD n k
  | 0, n => by simp [octD]
  | k + 1, n => by
    rw [octD, octD_cons k (n / 8)]
    rw [show octD n (k + 1) = octD (n / 8) k ++ [(48 + n % 8).toUInt8] from rfl, Nat.div_div_eq_div_mul, Nat.pow_succ, Nat.mul_comm 8]
    rfl
def omax (w : Int) : Int := if 2 ≤ w ∧ w ≤ 22 then 8 ^ (w.toNat - 1) - 1 else 0
def oerr (n w : Int) : Int := if ¬ (2 ≤ w ∧ w ≤ 22) then 2 else if n < 0 ∨ omax w < n then 3 else 0
def octf (n w : Int) : List UInt8 := if oerr n w = 0 then octD n.toNat (w.toNat - 1) ++ [0] else []
theorem pow8_le {k : Nat} (h : k ≤ 21) : (8 : Int) ^ k ≤ 9223372036854775808 := by
  have h1 : 8 ^ k ≤ 8 ^ 21 := Nat.pow_le_pow_right (by decide) h
  have h2 := Int.ofNat_le.2 h1
  have h3 : ((8 ^ k : Nat) : Int) = (8 : Int) ^ k := Int.natCast_pow 8 k
  rw [h3] at h2
  simpa using h2
theorem pow8_pos (k : Nat) : (1 : Int) ≤ 8 ^ k := by
  have : (0 : Int) < 8 ^ k := Int.pow_pos (by decide)
  omega

theorem octal_valid (h : Heap) (w : Int) : Cal Tryz.prog 97 #[.int .i64 (w)] h (fun v h' => v = .bool (decide (2 ≤ w ∧ w ≤ 22)) ∧ h' = h) := by
 refine Ce Tryz.func97 fun σ => ?_
 refine Wa ?_
 refine Nx ?_
 refine Wc [(2, .bool (decide ((2 ≤ w) ∧ (w ≤ 22))))] (fun h' => h' = h) ?_ ?_
 ·refine Wg ?_
  refine Mv ?_
  refine Ly (Y_geq rfl rfl) ?_
  refine Mv ?_
  refine L_splitd (d := 5) rfl (fun c1 => ?_) (fun c1 => ?_)
  ·refine Ly (Y_move rfl) ?_
   refine Ly (Y_leq rfl rfl) ?_
   refine Ly Ypt ?_
   refine Av ?_
   refine Ln ?_
   exact X_cut () (sk1 2 (lkb rfl (by first | (simp only [eq_true c1, SB]; done) | (simp only [eq_true c1, SB]; rfl))) sN) rfl
  refine Sk2 ?_
  refine Ly Ypf ?_
  refine Av ?_
  refine Ln ?_
  exact X_cut () (sk1 2 (lkb rfl (by first | (simp only [eq_false c1, SB]; done) | (simp only [eq_false c1, SB]; rfl))) sN) rfl
 rintro h rfl
 refine Wt ?_
 refine Xv1 ?_
 exact ⟨rfl, rfl⟩

theorem pow_two_eight (k : Nat) : (1 : Int) * 2 ^ (3 * k) = 8 ^ k := by
  rw [Int.pow_mul, Int.one_mul]; rfl

theorem octal_Max (h : Heap) (w : Int) : Cal Tryz.prog 143 #[.int .i64 (w)] h (fun v h' => v = .int .i64 (omax w) ∧ h' = h) := by
 have hpw : 2 ≤ w → (1 : Int) * 2 ^ (3 * (w - 1)).toNat = 8 ^ (w.toNat - 1) := fun h => by rw [← pow_two_eight]; congr 2; omega
 have hp1 := pow8_pos (w.toNat - 1)
 refine Ce Tryz.func143 fun σ => ?_
 refine Wa ?_
 refine Ln (Xt (Wq (Wq (Wg ?_))))
 refine Mv ?_
 refine Lc (octal_valid _ w) ?_
 rintro _ h ⟨rfl, rfl⟩
 refine Ly (Y_notd rfl) ?_
 refine Nx ?_
 refine Sd (fun g => ?_) fun g => ?_
 ·refine Wa ?_
  refine Ln (Xt (Wt (Xr ?_)))
  refine Xv1 ?_
  exact ⟨by unfold omax; rw [if_neg (by omega)], rfl⟩
 refine Wk (Xt (Wq (Wg ?_)))
 refine Mv ?_
 refine Ly (Y_sub rfl rfl (by omega) (by omega)) ?_
 refine Ly (Y_mul rfl rfl (by omega) (by omega)) ?_
 refine Ly (Y_shlu rfl rfl (by omega) (by omega) (by rw [hpw (by omega)]; have := pow8_le (k := w.toNat - 1) (by omega); omega) (by rw [hpw (by omega)]; have := pow8_le (k := w.toNat - 1) (by omega); omega)) ?_
 refine Ly (Y_subw rfl rfl) ?_
 refine Ly (Y_conv Tryz.underlying179 Tryz.underlying2 rfl) ?_
 refine An ?_
 refine Wu _ (tk1 2) ?_
 refine Wt ?_
 refine Xv1 ?_
 refine ⟨?_, rfl⟩
 have hp2 := pow8_le (k := w.toNat - 1) (by omega)
 rw [hpw (by omega), IntKind.wrap_u64, Int.emod_eq_of_lt (by omega) (by omega), wrap_i64 (by omega) (by omega)]
 unfold omax
 rw [if_pos (by omega)]

theorem div_step (n : Int) (i : Nat) : n / 8 ^ i / 2 ^ (Int.toNat 3) = n / 8 ^ (i + 1) := by
  rw [Int.ediv_ediv_of_nonneg (Int.le_of_lt (Int.pow_pos (by decide))), Int.pow_succ]; rfl
theorem oct_set (N m i : Nat) (hm : 1 ≤ m) (d : UInt8) (hd : d = (48 + N / 8 ^ i % 8).toUInt8) : (List.replicate m 0 ++ octD N i ++ [0]).set (m - 1) d = List.replicate (m - 1) 0 ++ octD N (i + 1) ++ [0] := by
  obtain ⟨j, rfl⟩ : ∃ j, m = j + 1 := ⟨m - 1, by omega⟩
  rw [octD_cons, ← hd, List.replicate_succ', Nat.add_sub_cancel]
  simp
theorem oct_digit {n : Int} (hn : 0 ≤ n) (i : Nat) : (48 + n / 8 ^ i % 8).toNat.toUInt8 = (48 + n.toNat / 8 ^ i % 8).toUInt8 := by
  congr 1
  have h1 : ((n.toNat / 8 ^ i : Nat) : Int) = n / 8 ^ i := by rw [Int.natCast_ediv, Int.toNat_of_nonneg hn, Int.natCast_pow]; rfl
  omega

theorem octal_Format (h : Heap) (n : Int) (w : Int) (hn : n ≤ 9223372036854775807) : Cal Tryz.prog 115 #[.int .i64 (n), .int .i64 (w)] h (fun v h' => ∃ s0, v = .tuple #[s0, .int .i64 (oerr n w)] ∧ Bytes h' s0 (octf n w) ∧ Ext h h') := by
 refine Ce Tryz.func115 fun σ => ?_
 refine Wa ?_
 refine Av ?_
 refine Ln (Xt (Wq (Wb (Wq (Wg ?_)))))
 refine Mv ?_
 refine Lc (octal_valid _ w) ?_
 rintro _ h ⟨rfl, rfl⟩
 refine Ly (Y_notd rfl) ?_
 refine An ?_
 refine Sd (fun g1 => ?_) fun g1 => ?_
 ·refine Wa ?_
  refine Av ?_
  refine Ln (Xt (Wt (Yr (Xr ?_))))
  refine Xv2 ?_
  have he : oerr n w = 2 := by unfold oerr; rw [if_pos (by omega)]
  refine ⟨_, by rw [he], ?_, (Ext.refl _)⟩
  unfold octf
  rw [if_neg (by rw [he]; decide)]
  exact Bytes.nil _
 refine Wc [(12, .bool (decide ((n < 0) ∨ ((omax w) < n)))), (5, .int .i64 0), (4, .slice none 0 0), (0, .int .i64 (n)), (1, .int .i64 (w))] (fun h' => h' = h) ?_ ?_
 ·refine Wg ?_
  refine Mv ?_
  refine Ly Yls ?_
  refine Mv ?_
  refine L_splitd (d := 15) rfl (fun c1 => ?_) (fun c1 => ?_)
  ·refine Sk2 ?_
   refine Sk2 ?_
   refine Ly Ypt ?_
   refine Av ?_
   refine Ln ?_
   exact X_cut () (sk1 12 (lkb rfl (by first | (simp only [eq_true c1, SB]; done) | (simp only [eq_true c1, SB]; rfl))) (sk1 5 rfl (sk1 4 rfl (sk1 0 rfl (tk1 1))))) rfl
  refine Ly (Y_move rfl) ?_
  refine Mv ?_
  refine Lc (octal_Max _ w) ?_
  rintro _ h ⟨rfl, rfl⟩
  refine Ly (Y_gtr rfl rfl) ?_
  refine Ly Ypf ?_
  refine Av ?_
  refine Ln ?_
  exact X_cut () (sk1 12 (lkb rfl (by first | (simp only [eq_false c1, SB]; done) | (simp only [eq_false c1, SB]; rfl))) (sk1 5 rfl (sk1 4 rfl (sk1 0 rfl (tk1 1))))) rfl
 rintro h rfl
 refine Sd (fun g2 => ?_) fun g2 => ?_
 ·refine Wa ?_
  refine Av ?_
  refine Ln (Xt (Wt (Yr (Xr ?_))))
  refine Xv2 ?_
  have he : oerr n w = 3 := by unfold oerr; rw [if_neg (by omega), if_pos g2]
  refine ⟨_, by rw [he], ?_, (Ext.refl _)⟩
  unfold octf
  rw [if_neg (by rw [he]; decide)]
  exact Bytes.nil _
 refine Wk (Xb (Xt ?_))
 have he : oerr n w = 0 := by unfold oerr; rw [if_neg (by omega), if_neg g2]
 refine Wm ?_
 refine L_mks (M_makeb Tryz.underlying22 (by unfold elemRow; kernel_rfl) rfl rfl rfl (by omega) (by omega)) rfl rfl rfl ?_
 rintro _ h1 ⟨rfl, hx2, hb3⟩
 refine Av ?_
 refine Ln (Xt (Wq (Wq (Wg ?_))))
 refine Mv ?_
 refine Ly (Y_sub rfl rfl (by omega) (by omega)) ?_
 refine Mv ?_
 refine Ln (Xt (Wb ?_))
 refine W_loop (S := Nat) (fun i => [(24, .int .i64 (w - 1)), (5, .int .i64 0), (4, .slice none 0 0), (1, .int .i64 (w)), (0, .int .i64 (n / 8 ^ i)), (6, .slice (some ⟨h.size, 0, none⟩) w.toNat w.toNat), (25, .int .i64 ((i : Int)))]) (fun i h' => (i + 1 : Int) ≤ w ∧ Buf h' h.size (List.replicate (w.toNat - 1 - i) 0 ++ octD n.toNat i ++ [0]) ∧ Ext h h') (fun i => w.toNat - i) 0 (sk4 24 5 4 1 rfl rfl rfl rfl (sk1 0 (lki rfl (by simp)) (tk2 6 25))) ?_ ?_
 ·exact ⟨by omega, Buf.congr hb3 (by rw [show w.toNat = (w.toNat - 1 - 0) + 1 by omega, List.replicate_succ']; simp [octD]), hx2⟩
 rintro i h2 ⟨hi, hb, hx⟩
 show W _ _ _ _ _ [(24, .int .i64 (w - 1)), (5, .int .i64 0), (4, .slice none 0 0), (1, .int .i64 (w)), (0, .int .i64 (n / 8 ^ i)), (6, .slice (some ⟨h.size, 0, none⟩) w.toNat w.toNat), (25, .int .i64 ((i : Int)))] _
 refine Wr ?_
 refine Ly Yls ?_
 refine Ln (Xt (Wq ?_))
 refine Sd (fun hl => ?_) fun hl => ?_
 ·refine Wk (Xt (Wq (Wb (Wq (Wg ?_)))))
  refine Mv ?_
  refine An ?_
  have hnn : 0 ≤ n / 8 ^ i ∧ n / 8 ^ i ≤ n := ⟨Int.ediv_nonneg (by omega) (Int.le_of_lt (Int.pow_pos (by decide))), Int.ediv_le_self _ (by omega)⟩
  have hll : (List.replicate (w.toNat - 1 - i) (0 : UInt8) ++ octD n.toNat i ++ [0]).length = w.toNat := by simp [octD_length]; omega
  refine Wm ?_
  refine Mv ?_
  refine Ly (Y_sub rfl rfl (by omega) (by omega)) ?_
  refine Mv ?_
  refine Ly (Y_sub rfl rfl (by omega) (by omega)) ?_
  refine Mv ?_
  refine Ly (Y_and7 rfl rfl (by omega) (by omega)) ?_
  refine Ly (Y_convs Tryz.underlying2 Tryz.underlying5 rfl (wrap_u8 (by omega) (by omega))) ?_
  refine Ly (Y_addu8 rfl rfl (by omega) (by omega)) ?_
  refine Ly (Y_idx Tryz.underlying22 (show _ = some 1 by kernel_rfl) rfl rfl (hb.bytes (by first | (simp; done) | (simp [octD_length]; omega))) (by omega) (by omega)) ?_
  refine L_dos (D_storee (show _ = some 1 by kernel_rfl) rfl rfl (by omega) hb (by omega)) rfl rfl ?_
  rintro h3 ⟨hx4, hs5, hb6⟩
  refine Nx ?_
  refine Wu _ (tk7 24 5 4 1 0 6 25) ?_
  refine Wg ?_
  refine Mv ?_
  refine Ly (Y_shr rfl rfl (by omega) (by omega)) ?_
  refine Av ?_
  refine Ln (Xb (Xt (Wg ?_)))
  refine Lad ?_
  refine Mv ?_
  refine Ln ?_
  refine X_loop (i + 1) (sk4 24 5 4 1 rfl rfl rfl rfl (sk1 0 (lki rfl (by exact div_step n i)) (tk2 6 25))) ?_ ?_
  ·exact ⟨by omega, Buf.congr hb6 (by rw [show (w - 2 - (i : Int)).toNat = (w.toNat - 1 - i) - 1 by omega, show w.toNat - 1 - (i + 1) = (w.toNat - 1 - i) - 1 by omega]; exact oct_set _ _ _ (by omega) _ (oct_digit (by omega) i)), (hx.then' hx4 (by simp) (Nat.le_refl _))⟩
  (try dsimp only)
  omega
 refine W_exit ?_
 refine Xe (Xe ?_)
 refine X_block_hit ?_
 refine Xt (Wq (Wg ?_))
 refine Mv ?_
 refine A2 ?_
 refine Nx ?_
 refine Wu _ (tk2 5 4) ?_
 refine Wt ?_
 refine Xv2 ?_
 refine ⟨_, by rw [he], ?_, hx⟩
 unfold octf
 rw [if_pos he]
 refine Bytes.congr (hb.bytes (by first | (simp; done) | (simp [octD_length]; omega))) ?_
 have hwi : w.toNat - 1 = i := by omega
 rw [hwi]; simp

/-! ### Parse -/
/-- The number that octal digits spell, and whether they are octal digits. -/
def octN (l : List UInt8) : Nat := l.foldl (fun n c => n * 8 + (c.toNat - 48)) 0
def octOk (l : List UInt8) : Bool := l.all (fun c => 48 ≤ c && c ≤ 55)
def operr (b : List UInt8) : Int := if ¬ (2 ≤ b.length ∧ b.length ≤ 22) then 2 else if byt b (b.length - 1) = 0 ∧ octOk (b.take (b.length - 1)) = true then 0 else 6
def opnum (b : List UInt8) : Int := if operr b = 0 then (octN (b.take (b.length - 1)) : Int) else 0

theorem octN_snoc (l : List UInt8) (c : UInt8) : octN (l ++ [c]) = octN l * 8 + (c.toNat - 48) := by simp [octN]
theorem octN_step {l : List UInt8} {i : Nat} (h : i < l.length) : octN (l.take (i + 1)) = octN (l.take i) * 8 + ((byt l i).toNat - 48) := by
  rw [List.take_succ_eq_append_getElem h, octN_snoc, byt_eq h]; try rfl
theorem octN_lt {l : List UInt8} : ∀ {i : Nat}, i ≤ l.length → (∀ k, k < i → 48 ≤ byt l k ∧ byt l k ≤ 55) → octN (l.take i) < 8 ^ i
  | 0, _, _ => by simp [octN]
  | i + 1, h, hd => by
    have h1 := octN_lt (l := l) (i := i) (by omega) (fun k hk => hd k (by omega))
    have h2 := hd i (by omega)
    rw [octN_step (by omega), Nat.pow_succ]
    omega
theorem octN_le {l : List UInt8} {i : Nat} (h : i ≤ l.length) (hi : i ≤ 21) (hd : ∀ k, k < i → 48 ≤ byt l k ∧ byt l k ≤ 55) : octN (l.take i) ≤ 9223372036854775807 := by
  have h1 := octN_lt h hd
  have h2 : 8 ^ i ≤ 8 ^ 21 := Nat.pow_le_pow_right (by decide) hi
  have h3 : (8 : Nat) ^ 21 = 9223372036854775808 := by decide
  omega
theorem octOk_iff {l : List UInt8} : octOk l = true ↔ ∀ k, k < l.length → 48 ≤ byt l k ∧ byt l k ≤ 55 := by
  unfold octOk
  rw [List.all_eq_true]
  constructor
  · intro h k hk
    have := h _ (List.getElem_mem hk)
    rw [byt_eq hk]
    simp only [Bool.and_eq_true, decide_eq_true_eq, UInt8.le_iff_toNat_le] at this
    have e1 : (48 : UInt8).toNat = 48 := rfl
    have e2 : (55 : UInt8).toNat = 55 := rfl
    omega
  · intro h x hx
    obtain ⟨k, hk, rfl⟩ := List.getElem_of_mem hx
    have := h k hk
    rw [byt_eq hk] at this
    simp only [Bool.and_eq_true, decide_eq_true_eq, UInt8.le_iff_toNat_le]
    have e1 : (48 : UInt8).toNat = 48 := rfl
    have e2 : (55 : UInt8).toNat = 55 := rfl
    omega
theorem byt_take {l : List UInt8} {n k : Nat} (h : k < n) (hn : n ≤ l.length) : byt (l.take n) k = byt l k := by
  rw [byt_eq (by simp; omega), byt_eq (by omega), List.getElem_take]

theorem octal_Parse (h : Heap) (v : Value) (b : List UInt8) (hb : Bytes h v b) : Cal Tryz.prog 54 #[v] h (fun v h' => v = .tuple #[.int .i64 (opnum b), .int .i64 (operr b)] ∧ h' = h) := by
 refine Ce Tryz.func54 fun σ => ?_
 refine Wa ?_
 refine Av ?_
 refine Ln (Xt (Wq (Wq (Wg ?_))))
 refine Mv ?_
 refine Ly (Y_len Tryz.underlying22 rfl hb) ?_
 refine Lc (octal_valid _ (b.length : Int)) ?_
 rintro _ h ⟨rfl, rfl⟩
 refine Ly (Y_notd rfl) ?_
 refine Nx ?_
 refine Sd (fun g1 => ?_) fun g1 => ?_
 ·refine Wa ?_
  refine Av ?_
  refine Ln (Xt (Wt (Xr ?_)))
  refine Xv2 ?_
  have he : operr b = 2 := by unfold operr; rw [if_pos (by omega)]
  exact ⟨by simp [opnum, he], rfl⟩
 refine Wk (Xt (Wq (Wg ?_)))
 refine Mv ?_
 refine Ly (Y_len Tryz.underlying22 rfl hb) ?_
 refine Ly (Y_sub rfl rfl (by omega) (by omega)) ?_
 refine An ?_
 refine Wu _ (tk4 4 3 2 0) ?_
 refine Wq (Wq (Wg ?_))
 refine M2 ?_
 refine Ly (Y_idx Tryz.underlying22 (show _ = some 1 by kernel_rfl) rfl rfl hb (by omega) (by omega)) ?_
 refine Ly (Y_ldbyte Tryz.underlying5 rfl rfl hb (by omega) (by omega)) ?_
 refine Ly Yne ?_
 refine Nx ?_
 refine Sd (fun z => ?_) fun z => ?_
 ·refine Wa ?_
  refine Av ?_
  refine Ln (Xt (Wt (Xr ?_)))
  refine Xv2 ?_
  have he : operr b = 6 := by unfold operr; rw [if_neg (by omega), if_neg (fun h9 => z (by rw [show ((b.length : Int) - 1).toNat = b.length - 1 by omega]; exact h9.1))]
  exact ⟨by simp [opnum, he], rfl⟩
 refine Wk (Xt (Wq (Wg ?_)))
 refine An ?_
 have hll : (b.take ((b.length : Int) - 1).toNat).length = b.length - 1 := by simp only [List.length_take]; omega
 refine Wq (Wq (Wg ?_))
 refine M2 ?_
 have hb1 : Bytes h (slcut 1 0 ((b.length : Int) - 1).toNat v) (b.take ((b.length : Int) - 1).toNat) := Bytes.cuth hb (by omega) 
 refine Ly (Y_cut_h Tryz.underlying22 (show _ = some 1 by kernel_rfl) rfl hb rfl (by omega) (by omega)) ?_
 refine Ly (Y_len Tryz.underlying22 rfl hb1) ?_
 refine Mv ?_
 refine Nx ?_
 refine Wu _ (tk6 24 23 22 5 3 2) ?_
 refine Wb ?_
 refine W_loop (S := Nat) (fun i => [(23, .int .i64 (((b.take ((b.length : Int) - 1).toNat).length : Int))), (22, slcut 1 0 ((b.length : Int) - 1).toNat v), (5, .int .i64 ((octN ((b.take ((b.length : Int) - 1).toNat).take i) : Int))), (24, .int .i64 ((i : Int)))]) (fun i h' => i ≤ b.length - 1 ∧ (∀ k, k < i → 48 ≤ byt (b.take ((b.length : Int) - 1).toNat) k ∧ byt (b.take ((b.length : Int) - 1).toNat) k ≤ 55) ∧ h' = h) (fun i => b.length - i) 0 (tk4 23 22 5 24) ?_ ?_
 ·exact ⟨by omega, (fun k hk => absurd hk (Nat.not_lt_zero _)), rfl⟩
 rintro i h ⟨hi, hd, rfl⟩
 show W _ _ _ _ _ [(23, .int .i64 (((b.take ((b.length : Int) - 1).toNat).length : Int))), (22, slcut 1 0 ((b.length : Int) - 1).toNat v), (5, .int .i64 ((octN ((b.take ((b.length : Int) - 1).toNat).take i) : Int))), (24, .int .i64 ((i : Int)))] _
 refine Wr ?_
 refine Ly Yls ?_
 refine Ln (Xt (Wq ?_))
 refine Sd (fun hl => ?_) fun hl => ?_
 ·refine Wk (Xt (Wq (Wb (Wq (Wg ?_)))))
  refine Ly (Y_idx Tryz.underlying22 (show _ = some 1 by kernel_rfl) rfl rfl hb1 (by omega) (by omega)) ?_
  refine Ly (Y_ldbyte Tryz.underlying5 rfl rfl hb1 (by omega) (by omega)) ?_
  refine Av ?_
  refine Ln (Xt (Wq ?_))
  refine Wc [(33, .bool (decide (((byt (b.take ((b.length : Int) - 1).toNat) ((i : Int)).toNat) < 48) ∨ (55 < (byt (b.take ((b.length : Int) - 1).toNat) ((i : Int)).toNat))))), (7, .int .u8 (byt (b.take ((b.length : Int) - 1).toNat) ((i : Int)).toNat)), (23, .int .i64 (((b.take ((b.length : Int) - 1).toNat).length : Int))), (22, slcut 1 0 ((b.length : Int) - 1).toNat v), (5, .int .i64 ((octN ((b.take ((b.length : Int) - 1).toNat).take i) : Int))), (24, .int .i64 ((i : Int)))] (fun h' => h' = h) ?_ ?_
  ·refine Wg ?_
   refine Mv ?_
   refine Ly Yls ?_
   refine Mv ?_
   refine L_splitd (d := 30) rfl (fun c2 => ?_) (fun c2 => ?_)
   ·refine Sk2 ?_
    refine Ly Ypt ?_
    refine Ln ?_
    exact X_cut () (sk1 33 (lkb rfl (by first | (simp only [eq_true c2, SB]; done) | (simp only [eq_true c2, SB]; rfl))) (sk1 7 rfl (sk1 23 rfl (sk1 22 rfl (sk1 5 rfl (tk1 24)))))) rfl
   refine Ly (Y_move rfl) ?_
   refine Ly (Y_gtr rfl rfl) ?_
   refine Ly Ypf ?_
   refine Ln ?_
   exact X_cut () (sk1 33 (lkb rfl (by first | (simp only [eq_false c2, SB]; done) | (simp only [eq_false c2, SB]; rfl))) (sk1 7 rfl (sk1 23 rfl (sk1 22 rfl (sk1 5 rfl (tk1 24)))))) rfl
  rintro h rfl
  refine Sd (fun hc => ?_) fun hc => ?_
  ·refine Wa ?_
   refine Av ?_
   refine Ln (Xt (Wt (Xr (Yr (Xr (Xr (Yr (Xr ?_))))))))
   refine Xv2 ?_
   have hil : i < b.length - 1 := by omega
   have he : operr b = 6 := by unfold operr; rw [if_neg (by omega), if_neg (fun h9 => by have h8 := octOk_iff.1 h9.2 i (by simp; omega); rw [byt_take hil (by omega)] at h8; have h7 := hc; rw [byt_take (by omega : (i : Int).toNat < _) (by omega)] at h7; simp only [Int.toNat_natCast] at h7; omega)]
   exact ⟨by simp [opnum, he], rfl⟩
  refine Ws ?_
  have hle := octN_le (l := b.take ((b.length : Int) - 1).toNat) (i := i) (by omega) (by omega) hd
  have hst := octN_step (l := b.take ((b.length : Int) - 1).toNat) (i := i) (by omega)
  have hdd : ∀ k, k < i + 1 → 48 ≤ byt (b.take ((b.length : Int) - 1).toNat) k ∧ byt (b.take ((b.length : Int) - 1).toNat) k ≤ 55 := step_ne hd (by have h7 := hc; simp only [Int.toNat_natCast] at h7; omega)
  have hle2 := octN_le (l := b.take ((b.length : Int) - 1).toNat) (i := i + 1) (by omega) (by omega) hdd
  have hbt : byt (b.take ((b.length : Int) - 1).toNat) (i : Int).toNat = byt (b.take ((b.length : Int) - 1).toNat) i := rfl
  have hbi := hdd i (by omega)
  refine Wg ?_
  refine Mv ?_
  refine Ly (Y_shl rfl rfl (by omega) (by omega) (by rw [show (2 : Int) ^ (Int.toNat 3) = 8 from rfl]; omega) (by rw [show (2 : Int) ^ (Int.toNat 3) = 8 from rfl]; omega)) ?_
  refine Mv ?_
  refine Ly (Y_subu8 rfl rfl (by omega) (by omega)) ?_
  refine Ly (Y_convs Tryz.underlying5 Tryz.underlying2 rfl (wrap_i64 (by omega) (by omega))) ?_
  refine Ly (Y_or8 rfl rfl (by omega) (by omega) (by omega) (by omega)) ?_
  refine Av ?_
  refine Ln (Xb (Xt ?_))
  refine Wu _ (tk4 5 23 22 24) ?_
  refine Wg ?_
  refine Lad ?_
  refine Mv ?_
  refine Ln ?_
  refine X_loop (i + 1) (sk2 23 22 rfl rfl (sk1 5 (lki rfl (by rw [hst, hbt]; omega)) (tk1 24))) ?_ ?_
  ·exact ⟨by omega, hdd, rfl⟩
  (try dsimp only)
  omega
 refine W_exit ?_
 refine Xe (Xe ?_)
 refine X_block_hit ?_
 refine Xt (Wq (Wg ?_))
 refine Mv ?_
 refine A2 ?_
 refine Nx ?_
 refine Wu _ (tk2 3 2) ?_
 refine Wt ?_
 refine Xv2 ?_
 have hib : i = b.length - 1 := by omega
 have hok : octOk (b.take (b.length - 1)) = true := octOk_iff.2 (fun k hk => by rw [show b.length - 1 = ((b.length : Int) - 1).toNat by omega]; exact hd k (by simp at hk; omega))
 have z' : byt b (b.length - 1) = 0 := by rw [show b.length - 1 = ((b.length : Int) - 1).toNat by omega]; simpa using z
 have he : operr b = 0 := by unfold operr; rw [if_neg (by omega), if_pos ⟨z', hok⟩]
 refine ⟨?_, rfl⟩
 unfold opnum
 rw [he, if_pos rfl, List.take_of_length_le (by omega), show ((b.length : Int) - 1).toNat = b.length - 1 by omega]

end Go.Xp
