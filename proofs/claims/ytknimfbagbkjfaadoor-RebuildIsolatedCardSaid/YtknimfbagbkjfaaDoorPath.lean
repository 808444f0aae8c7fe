/- Layer 8 (pathname): Split, Join, Parent, Base, Compare: the program's functions and the reference's. -/
import Derived.Test.YtknimfbagbkjfaaDoorLaidN
import Derived.Sort.Walk0
import Derived.Lib.IndexLaws
set_option linter.unusedSimpArgs false
set_option linter.unusedVariables false
namespace Go.Xp
open Go.Proofs

/-! ### The last slash -/
def lastIdx : List UInt8 → UInt8 → Int
  | [], _ => -1
  | a :: l, c => if lastIdx l c = -1 then (if a = c then 0 else -1) else lastIdx l c + 1
theorem byt_zero (a : UInt8) (l : List UInt8) : byt (a :: l) 0 = (a.toNat : Int) := rfl
theorem byt_succ (a : UInt8) (l : List UInt8) (k : Nat) : byt (a :: l) (k + 1) = byt l k := by simp [byt]
theorem lastIdx_none : ∀ {l : List UInt8} {c : UInt8}, (∀ k, 0 ≤ k → k < l.length → ¬ byt l k = (c.toNat : Int)) → lastIdx l c = -1
  | [], _, _ => rfl
  | a :: l, c, h => by
    have h1 := lastIdx_none (l := l) (c := c) (fun k _ hk => by have := h (k + 1) (by omega) (by simpa using hk); rwa [byt_succ] at this)
    have h2 := h 0 (by omega) (by simp)
    rw [byt_zero] at h2
    unfold lastIdx
    rw [if_pos h1, if_neg (fun e => h2 (by rw [e]))]
theorem lastIdx_some : ∀ {l : List UInt8} {c : UInt8} {r : Nat}, r < l.length → byt l r = (c.toNat : Int) → (∀ k, r + 1 ≤ k → k < l.length → ¬ byt l k = (c.toNat : Int)) → lastIdx l c = r
  | [], _, r, h, _, _ => by simp at h
  | a :: l, c, 0, _, h1, h2 => by
    have h3 := lastIdx_none (l := l) (c := c) (fun k _ hk => by have := h2 (k + 1) (by omega) (by simpa using hk); rwa [byt_succ] at this)
    rw [byt_zero] at h1
    have h4 : a = c := UInt8.toNat_inj.1 (by omega)
    unfold lastIdx
    rw [if_pos h3, if_pos h4]; rfl
  | a :: l, c, r + 1, h, h1, h2 => by
    rw [byt_succ] at h1
    have h3 := lastIdx_some (l := l) (c := c) (r := r) (by simpa using h) h1 (fun k hk hk' => by have := h2 (k + 1) (by omega) (by simpa using hk'); rwa [byt_succ] at this)
    unfold lastIdx
    rw [if_neg (by omega), h3]; rfl
theorem lastIdx_lt (l : List UInt8) (c : UInt8) : -1 ≤ lastIdx l c ∧ lastIdx l c < l.length := by
  induction l with
  | nil => simp [lastIdx]
  | cons a l ih =>
    unfold lastIdx
    simp only [List.length_cons]
    split
    · split <;> omega
    · omega

theorem u8_back {c : Int} (hc : 0 ≤ c ∧ c ≤ 255) : ((c.toNat.toUInt8).toNat : Int) = c := by
  have h1 : c.toNat < 256 := by omega
  rw [show (c.toNat.toUInt8).toNat = c.toNat % 256 from rfl, Nat.mod_eq_of_lt h1, Int.toNat_of_nonneg hc.1]

set_option maxRecDepth 100000 in
theorem LastIndexByteString (h : Heap) (l : List UInt8) (c : Int) (hc : 0 ≤ c ∧ c ≤ 255) (hl : l.length ≤ 9223372036854775807) : Cal Tryd.prog 64 #[str l, .int .u8 (c)] h (fun v h' => v = .int .i64 (lastIdx l c.toNat.toUInt8) ∧ h' = h) := by
 have hcc := u8_back hc
 refine Cal_enter (args := [str l, .int .u8 (c)]) Tryd.func64 rfl rfl rfl (fun σ => ?_)
 refine Wr ?_
 refine Av ?_
 refine L_nil (X_then (W_seq (W_seq (W_region ?_))))
 refine Mv ?_
 refine Ly (Y_slen Tryd.underlying9 rfl) ?_
 refine Ly (Y_sub rfl rfl (by omega) (by omega)) ?_
 refine Av ?_
 refine Nx ?_
 refine W_sub _ (tk4 5 4 0 1) ?_
 refine W_block ?_
 refine W_loop (S := Nat) (fun n => [(0, str l), (1, .int .u8 (c)), (5, .int .i64 ((n : Int) - 1))]) (fun n h' => n ≤ l.length ∧ (∀ k, n ≤ k → k < l.length → ¬ byt l k = c) ∧ h' = h) (fun n => n) l.length (tk3 0 1 5) ?_ ?_
 ·exact ⟨Nat.le_refl _, fun k h1 h2 => absurd h2 (by omega), rfl⟩
 rintro n h ⟨hn, hz, rfl⟩
 show W _ _ _ _ _ [(0, str l), (1, .int .u8 (c)), (5, .int .i64 ((n : Int) - 1))] _
 refine W_seq (W_seq (W_region ?_))
 refine Mv ?_
 refine Ly (Y_geq rfl rfl) ?_
 refine Nx ?_
 refine W_sub _ (tk4 10 0 1 5) ?_
 refine W_splitd rfl (fun hg => ?_) (fun hg => ?_)
 ·refine Ws ?_
  refine W_sub _ (tk3 0 1 5) ?_
  refine W_seq (W_block (W_seq (W_region ?_)))
  refine Mv ?_
  refine Mv ?_
  refine Ly (Y_sidx Tryd.underlying9 rfl rfl (by omega) (by omega)) ?_
  refine Mv ?_
  refine Ly (Y_eql rfl rfl) ?_
  refine Nx ?_
  refine W_sub _ (tk4 17 0 1 5) ?_
  refine W_splitd rfl (fun he => ?_) (fun hne => ?_)
  ·refine Wr ?_
   refine Mv ?_
   refine Av ?_
   refine Nx ?_
   refine W_sub _ (tk4 4 0 1 5) ?_
   refine W_ret (X_block_ret (X_then_ret (X_then_ret (X_block_ret (X_then_ret ?_)))))
   refine X_ret1 rfl rfl ?_
   refine ⟨?_, rfl⟩
   rw [lastIdx_some (r := n - 1) (by omega) (by rw [hcc, show n - 1 = ((n : Int) - 1).toNat by omega]; exact he) (fun k h1 h2 => by rw [hcc]; exact hz k (by omega) h2)]
   congr 1; omega
  refine W_skip (X_block (X_then ?_))
  refine W_sub _ (tk3 0 1 5) ?_
  refine W_region ?_
  refine Mv ?_
  refine Ly (Y_sub rfl rfl (by omega) (by omega)) ?_
  refine Av ?_
  refine L_nil ?_
  refine X_loop (n - 1) (sk2 0 1 rfl rfl (sk1 5 (lki rfl (by omega)) sN)) ?_ ?_
  ·exact ⟨by omega, fun k h1 h2 => if h3 : k = n - 1 then by subst h3; rw [show n - 1 = ((n : Int) - 1).toNat by omega]; exact hne else hz k (by omega) h2, rfl⟩
  (try dsimp only)
  omega
 refine W_exit ?_
 refine X_then_exit (X_then_exit ?_)
 refine X_block_hit ?_
 refine X_then ?_
 refine W_sub _ sN ?_
 refine Wr ?_
 refine Av ?_
 refine L_nil (X_then (W_ret ?_))
 refine X_ret1 rfl rfl ?_
 refine ⟨?_, rfl⟩
 rw [lastIdx_none (fun k h1 h2 => by rw [hcc]; exact hz k (by omega) h2)]

set_option maxRecDepth 100000 in
theorem strings_LastIndex (h : Heap) (l : List UInt8) (u : List UInt8) (hu : u.length = 1) (hl : l.length ≤ 9223372036854775807) : Cal Tryd.prog 50 #[str l, str u] h (fun v h' => v = .int .i64 (lastIdx l (u.getD 0 0)) ∧ h' = h) := by
 have hb0 := byt_lt u 0
 refine Cal_enter (args := [str l, str u]) Tryd.func50 rfl rfl rfl (fun σ => ?_)
 refine Wr ?_
 refine Av ?_
 refine L_nil (X_then (W_seq (W_region ?_)))
 refine Mv ?_
 refine Ly (Y_slen Tryd.underlying9 rfl) ?_
 refine Av ?_
 refine Nx ?_
 refine W_sub _ (tk4 5 4 0 1) ?_
 refine W_seq (W_block (W_seq (W_region ?_)))
 refine Mv ?_
 refine Ly (Y_eql rfl rfl) ?_
 refine Av ?_
 refine Nx ?_
 refine W_sub _ (tk5 8 5 4 0 1) ?_
 refine W_known false rfl (by exact decide_eq_false (by omega)) ?_
 refine Wr ?_
 refine Mv ?_
 refine Ly (Y_eql rfl rfl) ?_
 refine Av ?_
 refine Nx ?_
 refine W_sub _ (tk5 13 5 4 0 1) ?_
 refine W_known true rfl (by exact decide_eq_true (by omega)) ?_
 refine Wr ?_
 refine Mv ?_
 refine Mv ?_
 refine Ly (Y_sidx Tryd.underlying9 rfl rfl (by omega) (by omega)) ?_
 refine L_call (E_call (by kernel_rfl) rfl) (LastIndexByteString _ l (byt u 0) (by first | omega | rfl | (simp <;> omega)) (by first | omega | rfl | (simp <;> omega))) rfl rfl rfl ?_
 rintro _ h ⟨rfl, rfl⟩
 refine Av ?_
 refine Nx ?_
 refine W_sub _ (tk3 4 0 1) ?_
 refine W_ret (X_block_ret (X_then_ret ?_))
 refine X_ret1 rfl rfl ?_
 exact ⟨by rw [byt_back], rfl⟩

set_option maxRecDepth 100000 in
theorem ref08_last (h : Heap) (l : List UInt8) (hl : l.length ≤ 9223372036854775807) : Cal Tryd.prog 57 #[str l] h (fun v h' => v = .int .i64 (lastIdx l 47) ∧ h' = h) := by
 refine Cal_enter (args := [str l]) Tryd.func57 rfl rfl rfl (fun σ => ?_)
 refine Wr ?_
 refine Av ?_
 refine L_nil (X_then (W_seq (W_seq (W_region ?_))))
 refine Mv ?_
 refine Ly (Y_slen Tryd.underlying9 rfl) ?_
 refine Ly (Y_sub rfl rfl (by omega) (by omega)) ?_
 refine Av ?_
 refine Nx ?_
 refine W_sub _ (tk3 3 2 0) ?_
 refine W_block ?_
 refine W_loop (S := Nat) (fun n => [(0, str l), (3, .int .i64 ((n : Int) - 1))]) (fun n h' => n ≤ l.length ∧ (∀ k, n ≤ k → k < l.length → ¬ byt l k = 47) ∧ h' = h) (fun n => n) l.length (tk2 0 3) ?_ ?_
 ·exact ⟨Nat.le_refl _, fun k h1 h2 => absurd h2 (by omega), rfl⟩
 rintro n h ⟨hn, hz, rfl⟩
 show W _ _ _ _ _ [(0, str l), (3, .int .i64 ((n : Int) - 1))] _
 refine W_seq (W_seq (W_region ?_))
 refine Mv ?_
 refine Ly (Y_geq rfl rfl) ?_
 refine Nx ?_
 refine W_sub _ (tk3 8 0 3) ?_
 refine W_splitd rfl (fun hg => ?_) (fun hg => ?_)
 ·refine Ws ?_
  refine W_sub _ (tk2 0 3) ?_
  refine W_seq (W_block (W_seq (W_region ?_)))
  refine Mv ?_
  refine Mv ?_
  refine Ly (Y_sidx Tryd.underlying9 rfl rfl (by omega) (by omega)) ?_
  refine Ly (Y_eql rfl rfl) ?_
  refine Nx ?_
  refine W_sub _ (tk3 14 0 3) ?_
  refine W_splitd rfl (fun he => ?_) (fun hne => ?_)
  ·refine Wr ?_
   refine Mv ?_
   refine Av ?_
   refine Nx ?_
   refine W_sub _ (tk3 2 0 3) ?_
   refine W_ret (X_block_ret (X_then_ret (X_then_ret (X_block_ret (X_then_ret ?_)))))
   refine X_ret1 rfl rfl ?_
   refine ⟨?_, rfl⟩
   rw [lastIdx_some (c := 47) (r := n - 1) (by omega) (by rw [show n - 1 = ((n : Int) - 1).toNat by omega]; exact he) (fun k h1 h2 => hz k (by omega) h2)]
   congr 1; omega
  refine W_skip (X_block (X_then ?_))
  refine W_sub _ (tk2 0 3) ?_
  refine W_region ?_
  refine Mv ?_
  refine Ly (Y_sub rfl rfl (by omega) (by omega)) ?_
  refine Av ?_
  refine L_nil ?_
  refine X_loop (n - 1) (sk1 0 rfl (sk1 3 (lki rfl (by omega)) sN)) ?_ ?_
  ·exact ⟨by omega, fun k h1 h2 => if h3 : k = n - 1 then by subst h3; rw [show n - 1 = ((n : Int) - 1).toNat by omega]; exact hne else hz k (by omega) h2, rfl⟩
  (try dsimp only)
  omega
 refine W_exit ?_
 refine X_then_exit (X_then_exit ?_)
 refine X_block_hit ?_
 refine X_then ?_
 refine W_sub _ sN ?_
 refine Wr ?_
 refine Av ?_
 refine L_nil (X_then (W_ret ?_))
 refine X_ret1 rfl rfl ?_
 refine ⟨?_, rfl⟩
 rw [lastIdx_none (c := 47) (fun k h1 h2 => hz k (by omega) h2)]

/-! ### Parent, Base, Join -/
def pparent (p : List UInt8) : List UInt8 := if lastIdx p 47 < 0 then [] else p.take (lastIdx p 47).toNat
set_option maxRecDepth 100000 in
theorem pathname_Parent (h : Heap) (p : List UInt8) (hl : p.length ≤ 9223372036854775807) : Cal Tryd.prog 33 #[str p] h (fun v h' => v = str (pparent p) ∧ h' = h) := by
 have hi : -1 ≤ lastIdx p ([47].getD 0 0) ∧ lastIdx p ([47].getD 0 0) < p.length := lastIdx_lt p 47
 refine Cal_enter (args := [str p]) Tryd.func33 rfl rfl rfl (fun σ => ?_)
 refine Wr ?_
 refine Av ?_
 refine L_nil (X_then (W_seq (W_region ?_)))
 refine Mv ?_
 refine L_call (E_call (by kernel_rfl) rfl) (strings_LastIndex _ p [47] (by first | omega | rfl | (simp <;> omega)) (by first | omega | rfl | (simp <;> omega))) rfl rfl rfl ?_
 rintro _ h ⟨rfl, rfl⟩
 refine Av ?_
 refine Nx ?_
 refine W_sub _ (tk3 3 2 0) ?_
 refine W_seq (W_seq (W_region ?_))
 refine Mv ?_
 refine Ly (Y_lss rfl rfl) ?_
 refine Nx ?_
 refine W_sub _ (tk4 7 3 2 0) ?_
 refine W_splitd rfl (fun g => ?_) (fun g => ?_)
 ·refine Wr ?_
  refine Av ?_
  refine Nx ?_
  refine W_sub _ (tk3 2 3 0) ?_
  refine W_ret (X_then_ret ?_)
  refine X_ret1 rfl rfl ?_
  have g' : lastIdx p 47 < 0 := g
  exact ⟨by unfold pparent; rw [if_pos g'], rfl⟩
 refine Ws ?_
 refine W_sub _ (tk3 3 2 0) ?_
 refine Wr ?_
 refine Mv ?_
 refine Mv ?_
 refine Ly (Y_sslice_h Tryd.underlying9 rfl rfl (by omega) (by omega)) ?_
 refine Av ?_
 refine Nx ?_
 refine W_sub _ (tk1 2) ?_
 refine W_ret ?_
 refine X_ret1 rfl rfl ?_
 have g' : ¬ lastIdx p 47 < 0 := g
 exact ⟨by unfold pparent; rw [if_neg g']; rfl, rfl⟩

set_option maxRecDepth 100000 in
theorem ref08_Parent (h : Heap) (p : List UInt8) (hl : p.length ≤ 9223372036854775807) : Cal Tryd.prog 39 #[str p] h (fun v h' => v = str (pparent p) ∧ h' = h) := by
 have hi : -1 ≤ lastIdx p 47 ∧ lastIdx p 47 < p.length := lastIdx_lt p 47
 refine Cal_enter (args := [str p]) Tryd.func39 rfl rfl rfl (fun σ => ?_)
 refine Wr ?_
 refine Av ?_
 refine L_nil (X_then (W_seq (W_region ?_)))
 refine Mv ?_
 refine L_call (E_call (by kernel_rfl) rfl) (ref08_last _ p (by first | omega | rfl | (simp <;> omega))) rfl rfl rfl ?_
 rintro _ h ⟨rfl, rfl⟩
 refine Av ?_
 refine Nx ?_
 refine W_sub _ (tk3 3 2 0) ?_
 refine W_seq (W_seq (W_region ?_))
 refine Mv ?_
 refine Ly (Y_lss rfl rfl) ?_
 refine Nx ?_
 refine W_sub _ (tk4 7 3 2 0) ?_
 refine W_splitd rfl (fun g => ?_) (fun g => ?_)
 ·refine Wr ?_
  refine Av ?_
  refine Nx ?_
  refine W_sub _ (tk3 2 3 0) ?_
  refine W_ret (X_then_ret ?_)
  refine X_ret1 rfl rfl ?_
  exact ⟨by unfold pparent; rw [if_pos g], rfl⟩
 refine Ws ?_
 refine W_sub _ (tk3 3 2 0) ?_
 refine Wr ?_
 refine Mv ?_
 refine Mv ?_
 refine Ly (Y_sslice_h Tryd.underlying9 rfl rfl (by omega) (by omega)) ?_
 refine Av ?_
 refine Nx ?_
 refine W_sub _ (tk1 2) ?_
 refine W_ret ?_
 refine X_ret1 rfl rfl ?_
 exact ⟨by unfold pparent; rw [if_neg g], rfl⟩

/-! ### Compare -/
def pcmp (a b : List UInt8) : Int := if Op.bytesLess a b = true then -1 else if a = b then 0 else 1

set_option maxRecDepth 100000 in
theorem isNaN_string (h : Heap) (a : List UInt8) : Cal Tryd.prog 63 #[str a] h (fun v h' => v = .bool (decide (¬ a = a)) ∧ h' = h) := by
 refine Cal_enter (args := [str a]) Tryd.func63 rfl rfl rfl (fun σ => ?_)
 refine Wr ?_
 refine Av ?_
 refine L_nil (X_then (W_seq (W_region ?_)))
 refine Mv ?_
 refine Mv ?_
 refine Ly (Y_sneq rfl rfl) ?_
 refine Av ?_
 refine Nx ?_
 refine W_sub _ (tk1 2) ?_
 refine W_ret ?_
 refine X_ret1 rfl rfl ?_
 exact ⟨rfl, rfl⟩

set_option maxRecDepth 100000 in
theorem cmp_Compare (h : Heap) (a : List UInt8) (b : List UInt8) : Cal Tryd.prog 49 #[str a, str b] h (fun v h' => v = .int .i64 (pcmp a b) ∧ h' = h) := by
 refine Cal_enter (args := [str a, str b]) Tryd.func49 rfl rfl rfl (fun σ => ?_)
 refine Wr ?_
 refine Av ?_
 refine L_nil (X_then (W_seq (W_region ?_)))
 refine Mv ?_
 refine L_call (E_call (by kernel_rfl) rfl) (isNaN_string _ a) rfl rfl rfl ?_
 rintro _ h ⟨rfl, rfl⟩
 refine Av ?_
 refine Nx ?_
 refine W_sub _ (tk4 5 4 0 1) ?_
 refine Wr ?_
 refine Mv ?_
 refine L_call (E_call (by kernel_rfl) rfl) (isNaN_string _ b) rfl rfl rfl ?_
 rintro _ h ⟨rfl, rfl⟩
 refine Av ?_
 refine Nx ?_
 refine W_sub _ (tk5 6 5 4 0 1) ?_
 refine W_seq (W_seq (W_region ?_))
 refine Mv ?_
 refine Nx ?_
 refine W_sub _ (tk5 11 6 4 0 1) ?_
 refine W_known false rfl (by exact decide_eq_false (by simp)) ?_
 refine Ws ?_
 refine W_sub _ (tk4 6 4 0 1) ?_
 refine W_seq (W_seq (W_region ?_))
 refine Mv ?_
 refine Nx ?_
 refine W_sub _ (tk4 13 4 0 1) ?_
 refine W_known false rfl (by exact decide_eq_false (by simp)) ?_
 refine Ws ?_
 refine W_sub _ (tk3 4 0 1) ?_
 refine W_seq (W_seq (W_region ?_))
 refine Mv ?_
 refine Mv ?_
 refine Ly (Y_slss rfl rfl) ?_
 refine Nx ?_
 refine W_sub _ (tk4 16 4 0 1) ?_
 refine W_split rfl (fun g1 => ?_) (fun g1 => ?_)
 ·refine Wr ?_
  refine Av ?_
  refine Nx ?_
  refine W_sub _ (tk3 4 0 1) ?_
  refine W_ret (X_then_ret ?_)
  refine X_ret1 rfl rfl ?_
  exact ⟨by unfold pcmp; rw [if_pos g1], rfl⟩
 refine Ws ?_
 refine W_sub _ (tk3 4 0 1) ?_
 refine W_seq (W_seq (W_region ?_))
 refine Mv ?_
 refine Mv ?_
 refine Ly (Y_sgtr rfl rfl) ?_
 refine Nx ?_
 refine W_sub _ (tk2 19 4) ?_
 refine W_split rfl (fun g2 => ?_) (fun g2 => ?_)
 ·refine Wr ?_
  refine Av ?_
  refine Nx ?_
  refine W_sub _ (tk1 4) ?_
  refine W_ret (X_then_ret ?_)
  refine X_ret1 rfl rfl ?_
  refine ⟨?_, rfl⟩
  simp [g1] at g2
  unfold pcmp
  rw [if_neg (by simp [g1]), if_neg g2]
 refine Ws ?_
 refine W_sub _ (tk1 4) ?_
 refine Wr ?_
 refine Av ?_
 refine L_nil (X_then (W_ret ?_))
 refine X_ret1 rfl rfl ?_
 refine ⟨?_, rfl⟩
 simp [g1] at g2
 unfold pcmp
 rw [if_neg (by simp [g1]), if_pos g2]

set_option maxRecDepth 100000 in
theorem pathname_Compare (h : Heap) (a : List UInt8) (b : List UInt8) : Cal Tryd.prog 32 #[str a, str b] h (fun v h' => v = .int .i64 (pcmp a b) ∧ h' = h) := by
 refine Cal_enter (args := [str a, str b]) Tryd.func32 rfl rfl rfl (fun σ => ?_)
 refine Wr ?_
 refine Av ?_
 refine L_nil (X_then (W_seq (W_region ?_)))
 refine Mv ?_
 refine Mv ?_
 refine L_call (E_call (by kernel_rfl) rfl) (cmp_Compare _ a b) rfl rfl rfl ?_
 rintro _ h ⟨rfl, rfl⟩
 refine Av ?_
 refine Nx ?_
 refine W_sub _ (tk1 4) ?_
 refine W_ret ?_
 refine X_ret1 rfl rfl ?_
 exact ⟨rfl, rfl⟩

theorem less_at : ∀ {a b : List UInt8} {i : Nat}, (∀ k, k < i → byt a k = byt b k) → i < a.length → i < b.length → byt a i < byt b i → Op.bytesLess a b = true
  | [], _, i, _, h, _, _ => by simp at h
  | _ :: _, [], i, _, _, h, _ => by simp at h
  | x :: a, y :: b, 0, _, _, _, h => by
    rw [byt_zero, byt_zero] at h
    have : x < y := UInt8.lt_iff_toNat_lt.2 (by omega)
    simp [Op.bytesLess, this]
  | x :: a, y :: b, i + 1, h0, h1, h2, h => by
    rw [byt_succ, byt_succ] at h
    have h3 := h0 0 (by omega)
    rw [byt_zero, byt_zero] at h3
    have h4 : x = y := UInt8.toNat_inj.1 (by omega)
    have h5 := less_at (a := a) (b := b) (i := i) (fun k hk => by have := h0 (k + 1) (by omega); rwa [byt_succ, byt_succ] at this) (by simpa using h1) (by simpa using h2) h
    simp [Op.bytesLess, h4, h5]
theorem less_short : ∀ {a b : List UInt8}, (∀ k, k < a.length → byt a k = byt b k) → a.length < b.length → Op.bytesLess a b = true
  | [], y :: b, _, _ => rfl
  | [], [], _, h => by simp at h
  | _ :: _, [], _, h => by simp at h
  | x :: a, y :: b, h0, h1 => by
    have h3 := h0 0 (by simp)
    rw [byt_zero, byt_zero] at h3
    have h4 : x = y := UInt8.toNat_inj.1 (by omega)
    have h5 := less_short (a := a) (b := b) (fun k hk => by have := h0 (k + 1) (by simpa using hk); rwa [byt_succ, byt_succ] at this) (by simpa using h1)
    simp [Op.bytesLess, h4, h5]
theorem less_irrefl : ∀ (a : List UInt8), Op.bytesLess a a = false
  | [] => rfl
  | x :: a => by simp [Op.bytesLess, less_irrefl a]
theorem less_asymm : ∀ {a b : List UInt8}, Op.bytesLess a b = true → Op.bytesLess b a = false
  | [], [], h => by simp [Op.bytesLess] at h
  | [], _ :: _, _ => rfl
  | _ :: _, [], h => by simp [Op.bytesLess] at h
  | x :: a, y :: b, h => by
    simp only [Op.bytesLess, Bool.or_eq_true, decide_eq_true_eq, Bool.and_eq_true, beq_iff_eq] at h
    rcases h with h | ⟨rfl, h⟩
    · have h1 : ¬ y < x := fun h2 => by rw [UInt8.lt_iff_toNat_lt] at h h2; omega
      have h2 : ¬ y = x := fun h2 => by subst h2; rw [UInt8.lt_iff_toNat_lt] at h; omega
      simp [Op.bytesLess, h1, h2]
    · simp [Op.bytesLess, less_asymm h]
theorem byt_ext : ∀ {a b : List UInt8}, a.length = b.length → (∀ k, k < a.length → byt a k = byt b k) → a = b
  | [], [], _, _ => rfl
  | [], _ :: _, h, _ => by simp at h
  | _ :: _, [], h, _ => by simp at h
  | x :: a, y :: b, h, h0 => by
    have h3 := h0 0 (by simp)
    rw [byt_zero, byt_zero] at h3
    have h4 : x = y := UInt8.toNat_inj.1 (by omega)
    rw [h4, byt_ext (a := a) (b := b) (by simpa using h) (fun k hk => by have := h0 (k + 1) (by simpa using hk); rwa [byt_succ, byt_succ] at this)]
theorem pcmp_lt {a b : List UInt8} (h : Op.bytesLess a b = true) : pcmp a b = -1 := by unfold pcmp; rw [if_pos h]
theorem pcmp_gt {a b : List UInt8} (h : Op.bytesLess b a = true) : pcmp a b = 1 := by
  unfold pcmp
  rw [if_neg (by simp [less_asymm h]), if_neg (fun e => by subst e; rw [less_irrefl] at h; cases h)]
theorem pcmp_eq (a : List UInt8) : pcmp a a = 0 := by unfold pcmp; simp [less_irrefl]

set_option maxRecDepth 100000 in
theorem ref08_Compare (h : Heap) (a : List UInt8) (b : List UInt8) (ha : a.length ≤ 9223372036854775807) : Cal Tryd.prog 38 #[str a, str b] h (fun v h' => v = .int .i64 (pcmp a b) ∧ h' = h) := by
 refine Cal_enter (args := [str a, str b]) Tryd.func38 rfl rfl rfl (fun σ => ?_)
 refine Wr ?_
 refine Av ?_
 refine L_nil (X_then (W_seq (W_seq (W_region ?_))))
 refine Av ?_
 refine L_nil (X_then (W_block ?_))
 refine W_loop (S := Nat) (fun i => [(0, str a), (1, str b), (5, .int .i64 ((i : Int)))]) (fun i h' => i ≤ a.length ∧ i ≤ b.length ∧ (∀ k, k < i → byt a k = byt b k) ∧ h' = h) (fun i => a.length - i) 0 (tk3 0 1 5) ?_ ?_
 ·exact ⟨by omega, by omega, fun k h1 => absurd h1 (by omega), rfl⟩
 rintro i h ⟨hia, hib, hz, rfl⟩
 show W _ _ _ _ _ [(0, str a), (1, str b), (5, .int .i64 ((i : Int)))] _
 refine W_seq ?_
 refine W_cut (S := Unit) (fun _ => [(15, .bool (decide (((i : Int) < (a.length : Int)) ∧ ((i : Int) < (b.length : Int))))), (0, str a), (1, str b), (5, .int .i64 ((i : Int)))]) (fun _ h' => h' = h) ?_ ?_
 ·refine W_region ?_
  refine Mv ?_
  refine Mv ?_
  refine Ly (Y_slen Tryd.underlying9 rfl) ?_
  refine Ly (Y_lss rfl rfl) ?_
  refine Mv ?_
  refine L_splitd (d := 10) rfl (fun g => ?_) (fun g => ?_)
  ·refine Ly (Y_move rfl) ?_
   refine Mv ?_
   refine Ly (Y_slen Tryd.underlying9 rfl) ?_
   refine Ly (Y_lss rfl rfl) ?_
   refine Ly (Y_pick_t rfl rfl) ?_
   refine L_nil ?_
   exact X_cut () (sk1 15 (lkb rfl (by first | (simp only [eq_true g, SB]; done) | (simp only [eq_true g, SB]; rfl))) (sk1 0 rfl (sk1 1 rfl (tk1 5)))) rfl
  refine Skp ?_
  refine Skp ?_
  refine Skp ?_
  refine Skp ?_
  refine Ly (Y_pick_f rfl rfl) ?_
  refine L_nil ?_
  exact X_cut () (sk1 15 (lkb rfl (by first | (simp only [eq_false g, SB]; done) | (simp only [eq_false g, SB]; rfl))) (sk1 0 rfl (sk1 1 rfl (tk1 5)))) rfl
 rintro _ h rfl
 show W _ _ _ _ _ [(15, .bool (decide (((i : Int) < (a.length : Int)) ∧ ((i : Int) < (b.length : Int))))), (0, str a), (1, str b), (5, .int .i64 ((i : Int)))] _
 refine W_splitd rfl (fun hl => ?_) (fun hl => ?_)
 ·refine Ws ?_
  refine W_sub _ (tk3 0 1 5) ?_
  refine W_seq (W_block (W_seq (W_seq ?_)))
  refine W_quiet (fun h' => h' = h) (by kernel_rfl) (by kernel_rfl) rfl ?_
  refine LQ_yld (fun h_ hI_ => by subst hI_; exact Y_move rfl) rfl rfl rfl ?_
  refine LQ_yld (fun h_ hI_ => by subst hI_; exact Y_move rfl) rfl rfl rfl ?_
  refine LQ_yld (fun h_ hI_ => by subst hI_; exact Y_sidx Tryd.underlying9 rfl rfl (by omega) (by omega)) rfl rfl rfl ?_
  refine LQ_yld (fun h_ hI_ => by subst hI_; exact Y_move rfl) rfl rfl rfl ?_
  refine LQ_yld (fun h_ hI_ => by subst hI_; exact Y_move rfl) rfl rfl rfl ?_
  refine LQ_yld (fun h_ hI_ => by subst hI_; exact Y_sidx Tryd.underlying9 rfl rfl (by omega) (by omega)) rfl rfl rfl ?_
  refine LQ_yld (fun h_ hI_ => by subst hI_; exact Y_lss rfl rfl) rfl rfl rfl ?_
  refine LQ_nil ?_
  rintro h rfl
  refine X_then ?_
  refine W_sub _ (tk4 24 0 1 5) ?_
  refine W_splitd rfl (fun h1 => ?_) (fun h1 => ?_)
  ·refine Wr ?_
   refine Av ?_
   refine Nx ?_
   refine W_sub _ (tk4 4 0 1 5) ?_
   refine W_ret (X_then_ret (X_block_ret (X_then_ret (X_then_ret (X_block_ret (X_then_ret ?_))))))
   refine X_ret1 rfl rfl ?_
   exact ⟨by rw [pcmp_lt (less_at (i := i) hz (by omega) (by omega) h1)], rfl⟩
  refine Ws ?_
  refine W_sub _ (tk3 0 1 5) ?_
  refine W_seq ?_
  refine W_quiet (fun h' => h' = h) (by kernel_rfl) (by kernel_rfl) rfl ?_
  refine LQ_yld (fun h_ hI_ => by subst hI_; exact Y_move rfl) rfl rfl rfl ?_
  refine LQ_yld (fun h_ hI_ => by subst hI_; exact Y_move rfl) rfl rfl rfl ?_
  refine LQ_yld (fun h_ hI_ => by subst hI_; exact Y_sidx Tryd.underlying9 rfl rfl (by omega) (by omega)) rfl rfl rfl ?_
  refine LQ_yld (fun h_ hI_ => by subst hI_; exact Y_move rfl) rfl rfl rfl ?_
  refine LQ_yld (fun h_ hI_ => by subst hI_; exact Y_move rfl) rfl rfl rfl ?_
  refine LQ_yld (fun h_ hI_ => by subst hI_; exact Y_sidx Tryd.underlying9 rfl rfl (by omega) (by omega)) rfl rfl rfl ?_
  refine LQ_yld (fun h_ hI_ => by subst hI_; exact Y_gtr rfl rfl) rfl rfl rfl ?_
  refine LQ_nil ?_
  rintro h rfl
  refine X_then ?_
  refine W_sub _ (tk4 31 0 1 5) ?_
  refine W_splitd rfl (fun h2 => ?_) (fun h2 => ?_)
  ·refine Wr ?_
   refine Av ?_
   refine Nx ?_
   refine W_sub _ (tk4 4 0 1 5) ?_
   refine W_ret (X_block_ret (X_then_ret (X_then_ret (X_block_ret (X_then_ret ?_)))))
   refine X_ret1 rfl rfl ?_
   exact ⟨by rw [pcmp_gt (less_at (i := i) (fun k hk => (hz k hk).symm) (by omega) (by omega) h2)], rfl⟩
  refine W_skip (X_block (X_then ?_))
  refine W_sub _ (tk3 0 1 5) ?_
  refine W_region ?_
  refine Mv ?_
  refine Ly (Y_add rfl rfl (by omega) (by omega)) ?_
  refine Av ?_
  refine L_nil ?_
  refine X_loop (i + 1) (tk3 0 1 5) ?_ ?_
  ·exact ⟨by omega, by omega, step_ne hz (by have h1' := h1; have h2' := h2; simp only [Int.toNat_natCast] at h1' h2'; omega), rfl⟩
  (try dsimp only)
  omega
 refine W_exit ?_
 refine X_then_exit (X_then_exit ?_)
 refine X_block_hit ?_
 refine X_then ?_
 refine W_sub _ (tk2 0 1) ?_
 refine W_seq (W_seq (W_region ?_))
 refine Mv ?_
 refine Ly (Y_slen Tryd.underlying9 rfl) ?_
 refine Mv ?_
 refine Ly (Y_slen Tryd.underlying9 rfl) ?_
 refine Ly (Y_lss rfl rfl) ?_
 refine Nx ?_
 refine W_sub _ (tk3 36 0 1) ?_
 refine W_splitd rfl (fun h1 => ?_) (fun h1 => ?_)
 ·refine Wr ?_
  refine Av ?_
  refine Nx ?_
  refine W_sub _ (tk3 4 0 1) ?_
  refine W_ret (X_then_ret ?_)
  refine X_ret1 rfl rfl ?_
  exact ⟨by rw [pcmp_lt (less_short (fun k hk => hz k (by omega)) (by omega))], rfl⟩
 refine Ws ?_
 refine W_sub _ (tk2 0 1) ?_
 refine W_seq (W_seq (W_region ?_))
 refine Mv ?_
 refine Ly (Y_slen Tryd.underlying9 rfl) ?_
 refine Mv ?_
 refine Ly (Y_slen Tryd.underlying9 rfl) ?_
 refine Ly (Y_gtr rfl rfl) ?_
 refine Nx ?_
 refine W_sub _ (tk1 41) ?_
 refine W_splitd rfl (fun h2 => ?_) (fun h2 => ?_)
 ·refine Wr ?_
  refine Av ?_
  refine Nx ?_
  refine W_sub _ (tk1 4) ?_
  refine W_ret (X_then_ret ?_)
  refine X_ret1 rfl rfl ?_
  exact ⟨by rw [pcmp_gt (less_short (fun k hk => (hz k (by omega)).symm) (by omega))], rfl⟩
 refine Ws ?_
 refine W_sub _ sN ?_
 refine Wr ?_
 refine Av ?_
 refine L_nil (X_then (W_ret ?_))
 refine X_ret1 rfl rfl ?_
 have he : a = b := byt_ext (by omega) (fun k hk => hz k (by omega))
 subst he
 exact ⟨by rw [pcmp_eq], rfl⟩

/-! ### Split -/
end Go.Xp
