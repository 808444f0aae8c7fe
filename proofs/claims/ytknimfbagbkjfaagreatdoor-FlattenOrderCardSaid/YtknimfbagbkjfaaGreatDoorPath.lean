/- Layer 8 (pathname): Split, Join, Parent, Base, Compare: the program's functions and the reference's. -/
import Derived.Test.YtknimfbagbkjfaaGreatDoorCstr
import Derived.Test.YtknimfbagbkjfaaGreatDoorRepeat
import Derived.Sort.Walk0
import Derived.Lib.IndexLaws
set_option linter.unusedSimpArgs false
set_option linter.unusedVariables false
namespace Go.Xp
open Go.Proofs

/-! ### The last slash -/
def lastIdx : List UInt8 → UInt8 → Int
  | [], _ => -1
  | a :: l, c => if lastIdx l c = -1 then (if a = c then 0 else -1) else lastIdx l c + 1
theorem byt_zero (a : UInt8) (l : List UInt8) : byt (a :: l) 0 = (a.toNat : Int) := rfl
theorem byt_succ (a : UInt8) (l : List UInt8) (k : Nat) : byt (a :: l) (k + 1) = byt l k := by simp [byt]
theorem lastIdx_none : ∀ {l : List UInt8} {c : UInt8}, (∀ k, 0 ≤ k → k < l.length → ¬ byt l k = (c.toNat : Int)) → lastIdx l c = -1
  | [], _, _ => rfl
  | a :: l, c, h => by
    have h1 := lastIdx_none (l := l) (c := c) (fun k _ hk => by have := h (k + 1) (by omega) (by simpa using hk); rwa [byt_succ] at this)
    have h2 := h 0 (by omega) (by simp)
    rw [byt_zero] at h2
    unfold lastIdx
    rw [if_pos h1, if_neg (fun e => h2 (by rw [e]))]
theorem lastIdx_some : ∀ {l : List UInt8} {c : UInt8} {r : Nat}, r < l.length → byt l r = (c.toNat : Int) → (∀ k, r + 1 ≤ k → k < l.length → ¬ byt l k = (c.toNat : Int)) → lastIdx l c = r
  | [], _, r, h, _, _ => by simp at h
  | a :: l, c, 0, _, h1, h2 => by
    have h3 := lastIdx_none (l := l) (c := c) (fun k _ hk => by have := h2 (k + 1) (by omega) (by simpa using hk); rwa [byt_succ] at this)
    rw [byt_zero] at h1
    have h4 : a = c := UInt8.toNat_inj.1 (by omega)
    unfold lastIdx
    rw [if_pos h3, if_pos h4]; rfl
  | a :: l, c, r + 1, h, h1, h2 => by
    rw [byt_succ] at h1
    have h3 := lastIdx_some (l := l) (c := c) (r := r) (by simpa using h) h1 (fun k hk hk' => by have := h2 (k + 1) (by omega) (by simpa using hk'); rwa [byt_succ] at this)
    unfold lastIdx
    rw [if_neg (by omega), h3]; rfl
theorem lastIdx_lt (l : List UInt8) (c : UInt8) : -1 ≤ lastIdx l c ∧ lastIdx l c < l.length := by
  induction l with
  | nil => simp [lastIdx]
  | cons a l ih =>
    unfold lastIdx
    simp only [List.length_cons]
    split
    · split <;> omega
    · omega

theorem u8_back {c : Int} (hc : 0 ≤ c ∧ c ≤ 255) : ((c.toNat.toUInt8).toNat : Int) = c := by
  have h1 : c.toNat < 256 := by omega
  rw [show (c.toNat.toUInt8).toNat = c.toNat % 256 from rfl, Nat.mod_eq_of_lt h1, Int.toNat_of_nonneg hc.1]

set_option maxRecDepth 100000 in
theorem LastIndexByteString (h : Heap) (l : List UInt8) (c : Int) (hc : 0 ≤ c ∧ c ≤ 255) (hl : l.length ≤ 9223372036854775807) : Cal Tryz.prog 35 #[str l, .int .u8 (c)] h (fun v h' => v = .int .i64 (lastIdx l c.toNat.toUInt8) ∧ h' = h) := by
 have hcc := u8_back hc
 refine Cal_enter (args := [str l, .int .u8 (c)]) Tryz.func35 rfl rfl rfl (fun σ => ?_)
 refine Wr ?_
 refine Av ?_
 refine L_nil (X_then (W_seq (W_seq (W_region ?_))))
 refine Mv ?_
 refine Ly (Y_slen Tryz.underlying9 rfl) ?_
 refine Ly (Y_sub rfl rfl (by omega) (by omega)) ?_
 refine Av ?_
 refine Nx ?_
 refine W_sub _ (tk4 5 4 0 1) ?_
 refine W_block ?_
 refine W_loop (S := Nat) (fun n => [(0, str l), (1, .int .u8 (c)), (5, .int .i64 ((n : Int) - 1))]) (fun n h' => n ≤ l.length ∧ (∀ k, n ≤ k → k < l.length → ¬ byt l k = c) ∧ h' = h) (fun n => n) l.length (tk3 0 1 5) ?_ ?_
 ·exact ⟨Nat.le_refl _, fun k h1 h2 => absurd h2 (by omega), rfl⟩
 rintro n h ⟨hn, hz, rfl⟩
 show W _ _ _ _ _ [(0, str l), (1, .int .u8 (c)), (5, .int .i64 ((n : Int) - 1))] _
 refine W_seq (W_seq (W_region ?_))
 refine Mv ?_
 refine Ly (Y_geq rfl rfl) ?_
 refine Nx ?_
 refine W_sub _ (tk4 10 0 1 5) ?_
 refine W_splitd rfl (fun hg => ?_) (fun hg => ?_)
 ·refine Ws ?_
  refine W_sub _ (tk3 0 1 5) ?_
  refine W_seq (W_block (W_seq (W_region ?_)))
  refine Mv ?_
  refine Mv ?_
  refine Ly (Y_sidx Tryz.underlying9 rfl rfl (by omega) (by omega)) ?_
  refine Mv ?_
  refine Ly (Y_eql rfl rfl) ?_
  refine Nx ?_
  refine W_sub _ (tk4 17 0 1 5) ?_
  refine W_splitd rfl (fun he => ?_) (fun hne => ?_)
  ·refine Wr ?_
   refine Mv ?_
   refine Av ?_
   refine Nx ?_
   refine W_sub _ (tk4 4 0 1 5) ?_
   refine W_ret (X_block_ret (X_then_ret (X_then_ret (X_block_ret (X_then_ret ?_)))))
   refine X_ret1 rfl rfl ?_
   refine ⟨?_, rfl⟩
   rw [lastIdx_some (r := n - 1) (by omega) (by rw [hcc, show n - 1 = ((n : Int) - 1).toNat by omega]; exact he) (fun k h1 h2 => by rw [hcc]; exact hz k (by omega) h2)]
   congr 1; omega
  refine W_skip (X_block (X_then ?_))
  refine W_sub _ (tk3 0 1 5) ?_
  refine W_region ?_
  refine Mv ?_
  refine Ly (Y_sub rfl rfl (by omega) (by omega)) ?_
  refine Av ?_
  refine L_nil ?_
  refine X_loop (n - 1) (sk2 0 1 rfl rfl (sk1 5 (lki rfl (by omega)) sN)) ?_ ?_
  ·exact ⟨by omega, fun k h1 h2 => if h3 : k = n - 1 then by subst h3; rw [show n - 1 = ((n : Int) - 1).toNat by omega]; exact hne else hz k (by omega) h2, rfl⟩
  (try dsimp only)
  omega
 refine W_exit ?_
 refine X_then_exit (X_then_exit ?_)
 refine X_block_hit ?_
 refine X_then ?_
 refine W_sub _ sN ?_
 refine Wr ?_
 refine Av ?_
 refine L_nil (X_then (W_ret ?_))
 refine X_ret1 rfl rfl ?_
 refine ⟨?_, rfl⟩
 rw [lastIdx_none (fun k h1 h2 => by rw [hcc]; exact hz k (by omega) h2)]

set_option maxRecDepth 100000 in
theorem strings_LastIndex (h : Heap) (l : List UInt8) (u : List UInt8) (hu : u.length = 1) (hl : l.length ≤ 9223372036854775807) : Cal Tryz.prog 18 #[str l, str u] h (fun v h' => v = .int .i64 (lastIdx l (u.getD 0 0)) ∧ h' = h) := by
 have hb0 := byt_lt u 0
 refine Cal_enter (args := [str l, str u]) Tryz.func18 rfl rfl rfl (fun σ => ?_)
 refine Wr ?_
 refine Av ?_
 refine L_nil (X_then (W_seq (W_region ?_)))
 refine Mv ?_
 refine Ly (Y_slen Tryz.underlying9 rfl) ?_
 refine Av ?_
 refine Nx ?_
 refine W_sub _ (tk4 5 4 0 1) ?_
 refine W_seq (W_block (W_seq (W_region ?_)))
 refine Mv ?_
 refine Ly (Y_eql rfl rfl) ?_
 refine Av ?_
 refine Nx ?_
 refine W_sub _ (tk5 8 5 4 0 1) ?_
 refine W_known false rfl (by exact decide_eq_false (by omega)) ?_
 refine Wr ?_
 refine Mv ?_
 refine Ly (Y_eql rfl rfl) ?_
 refine Av ?_
 refine Nx ?_
 refine W_sub _ (tk5 13 5 4 0 1) ?_
 refine W_known true rfl (by exact decide_eq_true (by omega)) ?_
 refine Wr ?_
 refine Mv ?_
 refine Mv ?_
 refine Ly (Y_sidx Tryz.underlying9 rfl rfl (by omega) (by omega)) ?_
 refine L_call (E_call (by kernel_rfl) rfl) (LastIndexByteString _ l (byt u 0) (by first | omega | rfl | (simp <;> omega)) (by first | omega | rfl | (simp <;> omega))) rfl rfl rfl ?_
 rintro _ h ⟨rfl, rfl⟩
 refine Av ?_
 refine Nx ?_
 refine W_sub _ (tk3 4 0 1) ?_
 refine W_ret (X_block_ret (X_then_ret ?_))
 refine X_ret1 rfl rfl ?_
 exact ⟨by rw [byt_back], rfl⟩

/-! ### Parent, Base, Join -/
def pparent (p : List UInt8) : List UInt8 := if lastIdx p 47 < 0 then [] else p.take (lastIdx p 47).toNat
def pjoin (a b : List UInt8) : List UInt8 := if a = [] then b else a ++ [47] ++ b

set_option maxRecDepth 100000 in
theorem pathname_Parent (h : Heap) (p : List UInt8) (hl : p.length ≤ 9223372036854775807) : Cal Tryz.prog 10 #[str p] h (fun v h' => v = str (pparent p) ∧ h' = h) := by
 have hi : -1 ≤ lastIdx p ([47].getD 0 0) ∧ lastIdx p ([47].getD 0 0) < p.length := lastIdx_lt p 47
 refine Cal_enter (args := [str p]) Tryz.func10 rfl rfl rfl (fun σ => ?_)
 refine Wr ?_
 refine Av ?_
 refine L_nil (X_then (W_seq (W_region ?_)))
 refine Mv ?_
 refine L_call (E_call (by kernel_rfl) rfl) (strings_LastIndex _ p [47] (by first | omega | rfl | (simp <;> omega)) (by first | omega | rfl | (simp <;> omega))) rfl rfl rfl ?_
 rintro _ h ⟨rfl, rfl⟩
 refine Av ?_
 refine Nx ?_
 refine W_sub _ (tk3 3 2 0) ?_
 refine W_seq (W_seq (W_region ?_))
 refine Mv ?_
 refine Ly (Y_lss rfl rfl) ?_
 refine Nx ?_
 refine W_sub _ (tk4 7 3 2 0) ?_
 refine W_splitd rfl (fun g => ?_) (fun g => ?_)
 ·refine Wr ?_
  refine Av ?_
  refine Nx ?_
  refine W_sub _ (tk3 2 3 0) ?_
  refine W_ret (X_then_ret ?_)
  refine X_ret1 rfl rfl ?_
  have g' : lastIdx p 47 < 0 := g
  exact ⟨by unfold pparent; rw [if_pos g'], rfl⟩
 refine Ws ?_
 refine W_sub _ (tk3 3 2 0) ?_
 refine Wr ?_
 refine Mv ?_
 refine Mv ?_
 refine Ly (Y_sslice_h Tryz.underlying9 rfl rfl (by omega) (by omega)) ?_
 refine Av ?_
 refine Nx ?_
 refine W_sub _ (tk1 2) ?_
 refine W_ret ?_
 refine X_ret1 rfl rfl ?_
 have g' : ¬ lastIdx p 47 < 0 := g
 exact ⟨by unfold pparent; rw [if_neg g']; rfl, rfl⟩

/-! ### Compare -/
def pcmp (a b : List UInt8) : Int := if Op.bytesLess a b = true then -1 else if a = b then 0 else 1

set_option maxRecDepth 100000 in
theorem isNaN_string (h : Heap) (a : List UInt8) : Cal Tryz.prog 34 #[str a] h (fun v h' => v = .bool (decide (¬ a = a)) ∧ h' = h) := by
 refine Cal_enter (args := [str a]) Tryz.func34 rfl rfl rfl (fun σ => ?_)
 refine Wr ?_
 refine Av ?_
 refine L_nil (X_then (W_seq (W_region ?_)))
 refine Mv ?_
 refine Mv ?_
 refine Ly (Y_sneq rfl rfl) ?_
 refine Av ?_
 refine Nx ?_
 refine W_sub _ (tk1 2) ?_
 refine W_ret ?_
 refine X_ret1 rfl rfl ?_
 exact ⟨rfl, rfl⟩

set_option maxRecDepth 100000 in
theorem cmp_Compare (h : Heap) (a : List UInt8) (b : List UInt8) : Cal Tryz.prog 17 #[str a, str b] h (fun v h' => v = .int .i64 (pcmp a b) ∧ h' = h) := by
 refine Cal_enter (args := [str a, str b]) Tryz.func17 rfl rfl rfl (fun σ => ?_)
 refine Wr ?_
 refine Av ?_
 refine L_nil (X_then (W_seq (W_region ?_)))
 refine Mv ?_
 refine L_call (E_call (by kernel_rfl) rfl) (isNaN_string _ a) rfl rfl rfl ?_
 rintro _ h ⟨rfl, rfl⟩
 refine Av ?_
 refine Nx ?_
 refine W_sub _ (tk4 5 4 0 1) ?_
 refine Wr ?_
 refine Mv ?_
 refine L_call (E_call (by kernel_rfl) rfl) (isNaN_string _ b) rfl rfl rfl ?_
 rintro _ h ⟨rfl, rfl⟩
 refine Av ?_
 refine Nx ?_
 refine W_sub _ (tk5 6 5 4 0 1) ?_
 refine W_seq (W_seq (W_region ?_))
 refine Mv ?_
 refine Nx ?_
 refine W_sub _ (tk5 11 6 4 0 1) ?_
 refine W_known false rfl (by exact decide_eq_false (by simp)) ?_
 refine Ws ?_
 refine W_sub _ (tk4 6 4 0 1) ?_
 refine W_seq (W_seq (W_region ?_))
 refine Mv ?_
 refine Nx ?_
 refine W_sub _ (tk4 13 4 0 1) ?_
 refine W_known false rfl (by exact decide_eq_false (by simp)) ?_
 refine Ws ?_
 refine W_sub _ (tk3 4 0 1) ?_
 refine W_seq (W_seq (W_region ?_))
 refine Mv ?_
 refine Mv ?_
 refine Ly (Y_slss rfl rfl) ?_
 refine Nx ?_
 refine W_sub _ (tk4 16 4 0 1) ?_
 refine W_split rfl (fun g1 => ?_) (fun g1 => ?_)
 ·refine Wr ?_
  refine Av ?_
  refine Nx ?_
  refine W_sub _ (tk3 4 0 1) ?_
  refine W_ret (X_then_ret ?_)
  refine X_ret1 rfl rfl ?_
  exact ⟨by unfold pcmp; rw [if_pos g1], rfl⟩
 refine Ws ?_
 refine W_sub _ (tk3 4 0 1) ?_
 refine W_seq (W_seq (W_region ?_))
 refine Mv ?_
 refine Mv ?_
 refine Ly (Y_sgtr rfl rfl) ?_
 refine Nx ?_
 refine W_sub _ (tk2 19 4) ?_
 refine W_split rfl (fun g2 => ?_) (fun g2 => ?_)
 ·refine Wr ?_
  refine Av ?_
  refine Nx ?_
  refine W_sub _ (tk1 4) ?_
  refine W_ret (X_then_ret ?_)
  refine X_ret1 rfl rfl ?_
  refine ⟨?_, rfl⟩
  simp [g1] at g2
  unfold pcmp
  rw [if_neg (by simp [g1]), if_neg g2]
 refine Ws ?_
 refine W_sub _ (tk1 4) ?_
 refine Wr ?_
 refine Av ?_
 refine L_nil (X_then (W_ret ?_))
 refine X_ret1 rfl rfl ?_
 refine ⟨?_, rfl⟩
 simp [g1] at g2
 unfold pcmp
 rw [if_neg (by simp [g1]), if_pos g2]

set_option maxRecDepth 100000 in
theorem pathname_Compare (h : Heap) (a : List UInt8) (b : List UInt8) : Cal Tryz.prog 9 #[str a, str b] h (fun v h' => v = .int .i64 (pcmp a b) ∧ h' = h) := by
 refine Cal_enter (args := [str a, str b]) Tryz.func9 rfl rfl rfl (fun σ => ?_)
 refine Wr ?_
 refine Av ?_
 refine L_nil (X_then (W_seq (W_region ?_)))
 refine Mv ?_
 refine Mv ?_
 refine L_call (E_call (by kernel_rfl) rfl) (cmp_Compare _ a b) rfl rfl rfl ?_
 rintro _ h ⟨rfl, rfl⟩
 refine Av ?_
 refine Nx ?_
 refine W_sub _ (tk1 4) ?_
 refine W_ret ?_
 refine X_ret1 rfl rfl ?_
 exact ⟨rfl, rfl⟩

theorem less_short : ∀ {a b : List UInt8}, (∀ k, k < a.length → byt a k = byt b k) → a.length < b.length → Op.bytesLess a b = true
  | [], y :: b, _, _ => rfl
  | [], [], _, h => by simp at h
  | _ :: _, [], _, h => by simp at h
  | x :: a, y :: b, h0, h1 => by
    have h3 := h0 0 (by simp)
    rw [byt_zero, byt_zero] at h3
    have h4 : x = y := UInt8.toNat_inj.1 (by omega)
    have h5 := less_short (a := a) (b := b) (fun k hk => by have := h0 (k + 1) (by simpa using hk); rwa [byt_succ, byt_succ] at this) (by simpa using h1)
    simp [Op.bytesLess, h4, h5]
theorem less_irrefl : ∀ (a : List UInt8), Op.bytesLess a a = false
  | [] => rfl
  | x :: a => by simp [Op.bytesLess, less_irrefl a]
theorem less_asymm : ∀ {a b : List UInt8}, Op.bytesLess a b = true → Op.bytesLess b a = false
  | [], [], h => by simp [Op.bytesLess] at h
  | [], _ :: _, _ => rfl
  | _ :: _, [], h => by simp [Op.bytesLess] at h
  | x :: a, y :: b, h => by
    simp only [Op.bytesLess, Bool.or_eq_true, decide_eq_true_eq, Bool.and_eq_true, beq_iff_eq] at h
    rcases h with h | ⟨rfl, h⟩
    · have h1 : ¬ y < x := fun h2 => by rw [UInt8.lt_iff_toNat_lt] at h h2; omega
      have h2 : ¬ y = x := fun h2 => by subst h2; rw [UInt8.lt_iff_toNat_lt] at h; omega
      simp [Op.bytesLess, h1, h2]
    · simp [Op.bytesLess, less_asymm h]
theorem byt_ext : ∀ {a b : List UInt8}, a.length = b.length → (∀ k, k < a.length → byt a k = byt b k) → a = b
  | [], [], _, _ => rfl
  | [], _ :: _, h, _ => by simp at h
  | _ :: _, [], h, _ => by simp at h
  | x :: a, y :: b, h, h0 => by
    have h3 := h0 0 (by simp)
    rw [byt_zero, byt_zero] at h3
    have h4 : x = y := UInt8.toNat_inj.1 (by omega)
    rw [h4, byt_ext (a := a) (b := b) (by simpa using h) (fun k hk => by have := h0 (k + 1) (by simpa using hk); rwa [byt_succ, byt_succ] at this)]
theorem pcmp_lt {a b : List UInt8} (h : Op.bytesLess a b = true) : pcmp a b = -1 := by unfold pcmp; rw [if_pos h]
theorem pcmp_gt {a b : List UInt8} (h : Op.bytesLess b a = true) : pcmp a b = 1 := by
  unfold pcmp
  rw [if_neg (by simp [less_asymm h]), if_neg (fun e => by subst e; rw [less_irrefl] at h; cases h)]
theorem pcmp_eq (a : List UInt8) : pcmp a a = 0 := by unfold pcmp; simp [less_irrefl]

/-! ### Split -/
/-- Slash 'i' parts 'p' into fields that fit. -/
def fits8 (p : List UInt8) (i : Nat) : Prop := 1 ≤ i ∧ i ≤ 155 ∧ i + 2 ≤ p.length ∧ p.length ≤ i + 101 ∧ byt p i = 47
def from8 (p : List UInt8) : Int := max 1 ((p.length : Int) - 100 - 1)
def slash8 (p : List UInt8) : Int := if Lib.indexByte (p.drop (from8 p).toNat) 47 < 0 then -1 else from8 p + Lib.indexByte (p.drop (from8 p).toNat) 47
def bad8 (p : List UInt8) : Bool := decide (slash8 p < 0 ∨ 155 < slash8 p ∨ slash8 p = p.length - 1)
def sok (p : List UInt8) : Bool := decide (p.length ≤ 100) || !bad8 p
def spre (p : List UInt8) : List UInt8 := if p.length ≤ 100 then [] else if bad8 p = true then [] else p.take (slash8 p).toNat
def snam (p : List UInt8) : List UInt8 := if p.length ≤ 100 then p else if bad8 p = true then [] else p.drop (slash8 p + 1).toNat

set_option maxRecDepth 100000 in
theorem pathname_Split (h : Heap) (p : List UInt8) (hl : p.length ≤ 9223372036854775807) : Cal Tryz.prog 38 #[str p] h (fun v h' => v = .tuple #[str (spre p), str (snam p), .bool (sok p)] ∧ h' = h) := by
 refine Cal_enter (args := [str p]) Tryz.func38 rfl rfl rfl (fun σ => ?_)
 refine Wr ?_
 refine Av ?_
 refine Av ?_
 refine Av ?_
 refine L_nil (X_then (W_seq (W_seq (W_region ?_))))
 refine Mv ?_
 refine Ly (Y_slen Tryz.underlying9 rfl) ?_
 refine Ly (Y_leq rfl rfl) ?_
 refine Nx ?_
 refine W_sub _ (tk5 9 4 3 2 0) ?_
 refine W_splitd rfl (fun hs => ?_) (fun hs => ?_)
 ·refine Wr ?_
  refine Mv ?_
  refine Av ?_
  refine Av ?_
  refine Av ?_
  refine Nx ?_
  refine W_sub _ (tk4 4 3 2 0) ?_
  refine W_ret (X_then_ret ?_)
  refine X_ret3 rfl rfl rfl rfl ?_
  exact ⟨by simp only [spre, snam, sok]; rw [if_pos (by omega), if_pos (by omega), decide_eq_true (by omega : p.length ≤ 100)]; rfl, rfl⟩
 refine Ws ?_
 refine W_sub _ (tk4 4 3 2 0) ?_
 refine Wr ?_
 refine Mv ?_
 refine Ly (Y_slen Tryz.underlying9 rfl) ?_
 refine Ly (Y_sub rfl rfl (by omega) (by omega)) ?_
 refine Ly (Y_sub rfl rfl (by omega) (by omega)) ?_
 refine Ly (Y_max rfl rfl) ?_
 refine Av ?_
 refine Nx ?_
 refine W_sub _ (tk5 5 4 3 2 0) ?_
 generalize hF : max (1 : Int) ((p.length : Int) - 100 - 1) = F
 refine Wr ?_
 refine Mv ?_
 refine Mv ?_
 refine Ly (Y_sslice_l Tryz.underlying9 rfl rfl (by omega) (by omega)) ?_
 refine L_call (E_call (by kernel_rfl) rfl) (strings_Index _ (p.drop (F).toNat) [47] (by first | omega | rfl | (simp <;> omega))) rfl rfl rfl ?_
 rintro _ h ⟨rfl, rfl⟩
 refine Av ?_
 refine Nx ?_
 refine W_sub _ (tk6 6 5 4 3 2 0) ?_
 generalize hI : Lib.indexByte (p.drop F.toNat) ([47].getD 0 0) = I
 have hI' : Lib.indexByte (p.drop F.toNat) 47 = I := hI
 have hI1 := indexByte_lt (p.drop F.toNat) 47
 have hI2 := Lib.indexByte_ge (p.drop F.toNat) 47
 have hsl : slash8 p = if I < 0 then -1 else F + I := by unfold slash8 from8; rw [hF, hI']
 rw [hI'] at hI1 hI2
 simp only [List.length_drop] at hI1
 refine W_seq ?_
 refine W_cut (S := Unit) (fun _ => [(36, .bool (decide (((I < 0) ∨ (155 < (F + I))) ∨ ((F + I) = ((p.length : Int) - 1))))), (6, .int .i64 (I)), (5, .int .i64 (F)), (4, .bool false), (3, str []), (2, str []), (0, str p)]) (fun _ h' => h' = h) ?_ ?_
 ·refine W_region ?_
  refine Mv ?_
  refine Ly (Y_lss rfl rfl) ?_
  refine Mv ?_
  refine L_splitd (d := 22) rfl (fun c1 => ?_) (fun c1 => ?_)
  ·refine Skp ?_
   refine Skp ?_
   refine Skp ?_
   refine Skp ?_
   refine Ly (Y_pick_t rfl rfl) ?_
   refine Mv ?_
   refine Skp ?_
   refine Skp ?_
   refine Skp ?_
   refine Skp ?_
   refine Skp ?_
   refine Skp ?_
   refine Skp ?_
   refine Ly (Y_pick_t rfl rfl) ?_
   refine L_nil ?_
   exact X_cut () (sk1 36 (lkb rfl (by first | (simp only [eq_true c1, SB]; done) | (simp only [eq_true c1, SB]; rfl))) (sk1 6 rfl (sk1 5 rfl (sk1 4 rfl (sk1 3 rfl (sk1 2 rfl (tk1 0))))))) rfl
  refine Ly (Y_move rfl) ?_
  refine Mv ?_
  refine Ly (Y_add rfl rfl (by omega) (by omega)) ?_
  refine Ly (Y_gtr rfl rfl) ?_
  refine Ly (Y_pick_f rfl rfl) ?_
  refine Mv ?_
  refine L_splitd (d := 28) rfl (fun c2 => ?_) (fun c2 => ?_)
  ·refine Skp ?_
   refine Skp ?_
   refine Skp ?_
   refine Skp ?_
   refine Skp ?_
   refine Skp ?_
   refine Skp ?_
   refine Ly (Y_pick_t rfl rfl) ?_
   refine L_nil ?_
   exact X_cut () (sk1 36 (lkb rfl (by first | (simp only [eq_false c1, eq_true c2, SB]; done) | (simp only [eq_false c1, eq_true c2, SB]; rfl))) (sk1 6 rfl (sk1 5 rfl (sk1 4 rfl (sk1 3 rfl (sk1 2 rfl (tk1 0))))))) rfl
  refine Ly (Y_move rfl) ?_
  refine Mv ?_
  refine Ly (Y_add rfl rfl (by omega) (by omega)) ?_
  refine Mv ?_
  refine Ly (Y_slen Tryz.underlying9 rfl) ?_
  refine Ly (Y_sub rfl rfl (by omega) (by omega)) ?_
  refine Ly (Y_eql rfl rfl) ?_
  refine Ly (Y_pick_f rfl rfl) ?_
  refine L_nil ?_
  exact X_cut () (sk1 36 (lkb rfl (by first | (simp only [eq_false c1, eq_false c2, SB]; done) | (simp only [eq_false c1, eq_false c2, SB]; rfl))) (sk1 6 rfl (sk1 5 rfl (sk1 4 rfl (sk1 3 rfl (sk1 2 rfl (tk1 0))))))) rfl
 rintro _ h rfl
 show W _ _ _ _ _ [(36, .bool (decide (((I < 0) ∨ (155 < (F + I))) ∨ ((F + I) = ((p.length : Int) - 1))))), (6, .int .i64 (I)), (5, .int .i64 (F)), (4, .bool false), (3, str []), (2, str []), (0, str p)] _
 refine W_splitd rfl (fun hb => ?_) (fun hb => ?_)
 ·refine Wr ?_
  refine Av ?_
  refine Av ?_
  refine Av ?_
  refine Nx ?_
  refine W_sub _ (tk6 4 3 2 6 5 0) ?_
  refine W_ret (X_then_ret ?_)
  refine X_ret3 rfl rfl rfl rfl ?_
  have hbad : bad8 p = true := by unfold bad8; rw [hsl]; apply decide_eq_true; split <;> omega
  have hle : ¬ p.length ≤ 100 := by omega
  exact ⟨by simp only [spre, snam, sok, if_neg hle, hbad, if_true, decide_eq_false hle]; rfl, rfl⟩
 refine Ws ?_
 refine W_sub _ (tk6 6 5 4 3 2 0) ?_
 refine W_seq ?_
 refine W_quiet (fun h' => h' = h) (by kernel_rfl) (by kernel_rfl) rfl ?_
 refine LQ_yld (fun h_ hI_ => by subst hI_; exact Y_move rfl) rfl rfl rfl ?_
 refine LQ_yld (fun h_ hI_ => by subst hI_; exact Y_move rfl) rfl rfl rfl ?_
 refine LQ_yld (fun h_ hI_ => by subst hI_; exact Y_move rfl) rfl rfl rfl ?_
 refine LQ_yld (fun h_ hI_ => by subst hI_; exact Y_add rfl rfl (by omega) (by omega)) rfl rfl rfl ?_
 refine LQ_yld (fun h_ hI_ => by subst hI_; exact Y_sslice_h Tryz.underlying9 rfl rfl (by omega) (by omega)) rfl rfl rfl ?_
 refine LQ_yld (fun h_ hI_ => by subst hI_; exact Y_move rfl) rfl rfl rfl ?_
 refine LQ_yld (fun h_ hI_ => by subst hI_; exact Y_move rfl) rfl rfl rfl ?_
 refine LQ_yld (fun h_ hI_ => by subst hI_; exact Y_move rfl) rfl rfl rfl ?_
 refine LQ_yld (fun h_ hI_ => by subst hI_; exact Y_add rfl rfl (by omega) (by omega)) rfl rfl rfl ?_
 refine LQ_yld (fun h_ hI_ => by subst hI_; exact Y_add rfl rfl (by omega) (by omega)) rfl rfl rfl ?_
 refine LQ_yld (fun h_ hI_ => by subst hI_; exact Y_sslice_l Tryz.underlying9 rfl rfl (by omega) (by omega)) rfl rfl rfl ?_
 refine LQ_yld (fun h_ hI_ => by subst hI_; exact Y_assign rfl) rfl rfl rfl ?_
 refine LQ_yld (fun h_ hI_ => by subst hI_; exact Y_assign rfl) rfl rfl rfl ?_
 refine LQ_yld (fun h_ hI_ => by subst hI_; exact Y_assign rfl) rfl rfl rfl ?_
 refine LQ_nil ?_
 rintro h rfl
 refine X_then ?_
 refine W_sub _ (tk3 4 3 2) ?_
 refine W_ret ?_
 refine X_ret3 rfl rfl rfl rfl ?_
 have hbad : bad8 p = false := by unfold bad8; rw [hsl]; apply decide_eq_false; split <;> omega
 have hle : ¬ p.length ≤ 100 := by omega
 have hI0 : ¬ I < 0 := by omega
 exact ⟨by simp only [spre, snam, sok, if_neg hle, hbad, decide_eq_false hle, Bool.false_eq_true, if_false, hsl, if_neg hI0]; rfl, rfl⟩

/-- The slash that Split takes: the first that fits. -/
theorem slash8_first {p : List UInt8} (hl : ¬ p.length ≤ 100) : (bad8 p = true ∧ ∀ i, ¬ fits8 p i) ∨ (bad8 p = false ∧ ∃ k : Nat, slash8 p = k ∧ fits8 p k ∧ ∀ i, i < k → ¬ fits8 p i) := by
  have hF1 : 1 ≤ from8 p ∧ ((p.length : Int) - 101 ≤ from8 p) ∧ (from8 p ≤ (p.length : Int) - 101 ∨ from8 p = 1) := by unfold from8; omega
  have hg := Lib.indexByte_ge (p.drop (from8 p).toNat) 47
  have hlt := indexByte_lt (p.drop (from8 p).toNat) 47
  simp only [List.length_drop] at hlt
  obtain ⟨F, hF⟩ : ∃ F : Nat, from8 p = F := ⟨(from8 p).toNat, by omega⟩
  unfold bad8 slash8
  rw [hF] at hF1 hg hlt ⊢
  simp only [Int.toNat_natCast] at hg hlt ⊢
  by_cases hI : Lib.indexByte (p.drop F) 47 < 0
  · left
    have hn := Lib.indexByte_none (l := p.drop F) (c := 47) (by omega)
    refine ⟨by rw [if_pos hI]; simp, fun i hi => ?_⟩
    obtain ⟨h1, h2, h3, h4, h5⟩ := hi
    apply hn (i - F)
    rw [List.getElem?_drop, show F + (i - F) = i by omega, List.getElem?_eq_getElem (by omega)]
    rw [byt_eq (by omega)] at h5
    congr 1
    exact UInt8.toNat_inj.1 (Int.ofNat_inj.1 h5)
  · obtain ⟨o, ho⟩ : ∃ o : Nat, Lib.indexByte (p.drop F) 47 = o := ⟨(Lib.indexByte (p.drop F) 47).toNat, by omega⟩
    obtain ⟨hs1, hs2⟩ := Lib.indexByte_some ho
    rw [ho] at hlt ⊢
    rw [if_neg (by omega)]
    have hb : byt p (F + o) = 47 := by
      rw [List.getElem?_drop, List.getElem?_eq_getElem (by omega)] at hs1
      rw [byt_eq (by omega), Option.some.inj hs1]; rfl
    have hno : ∀ i, F ≤ i → i < F + o → ¬ byt p i = 47 := fun i h1 h2 h3 => by
      apply hs2 (i - F) (by omega)
      rw [List.getElem?_drop, show F + (i - F) = i by omega, List.getElem?_eq_getElem (by omega)]
      rw [byt_eq (by omega)] at h3
      congr 1
      exact UInt8.toNat_inj.1 (Int.ofNat_inj.1 h3)
    by_cases hbad : ((F : Int) + o < 0 ∨ 155 < (F : Int) + o ∨ (F : Int) + o = p.length - 1)
    · left
      refine ⟨decide_eq_true hbad, fun i hi => ?_⟩
      obtain ⟨h1, h2, h3, h4, h5⟩ := hi
      have : ¬ i < F + o := fun h => hno i (by omega) h h5
      omega
    · right
      refine ⟨decide_eq_false hbad, F + o, by simp, ⟨by omega, by omega, by omega, by omega, hb⟩, fun i h hi => ?_⟩
      obtain ⟨h1, h2, h3, h4, h5⟩ := hi
      exact hno i (by omega) h h5

end Go.Xp
