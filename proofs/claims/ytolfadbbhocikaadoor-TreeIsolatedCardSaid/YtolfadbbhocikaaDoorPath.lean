/- Layer 8 (pathname): Split, Join, Parent, Base, Compare: the program's functions and the reference's. -/
import Derived.Test.YtolfadbbhocikaaDoorCstr
import Derived.Test.YtolfadbbhocikaaDoorRepeat
import Derived.Sort.Walk0
import Derived.Lib.IndexLaws
set_option linter.unusedSimpArgs false
set_option linter.unusedVariables false
namespace Go.Xp
open Go.Proofs

theorem Y_negi {P : Program} {n : Nat} {e : Env} {h : Heap} {d : Option Tmp} {t : TypeId} {pos : String} {af : Array Edge} {g : Option (Nat × Bool)} {T : TypeId} {x : Operand} {p : Int} (hx : ev e x = some (.int .i64 p)) (h0 : -9223372036854775807 ≤ p) (h1 : p ≤ 9223372036854775807) : Yld P n e h ⟨d, .unOp .neg T x, t, pos, af, g⟩ (.int .i64 (-p)) := by
  have := Y_neg (P := P) (n := n) (h := h) (d := d) (t := t) (pos := pos) (af := af) (g := g) (T := T) hx
  rw [wrap_i64 (by omega) (by omega), Int.zero_sub] at this
  exact this

/-! ### The last slash -/
def lastIdx : List UInt8 → UInt8 → Int
  | [], _ => -1
  | a :: l, c => if lastIdx l c = -1 then (if a = c then 0 else -1) else lastIdx l c + 1
theorem byt_zero (a : UInt8) (l : List UInt8) : byt (a :: l) 0 = (a.toNat : Int) := rfl
theorem byt_succ (a : UInt8) (l : List UInt8) (k : Nat) : byt (a :: l) (k + 1) = byt l k := by simp [byt]
theorem lastIdx_none : ∀ {l : List UInt8} {c : UInt8}, (∀ k, 0 ≤ k → k < l.length → ¬ byt l k = (c.toNat : Int)) → lastIdx l c = -1
  | [], _, _ => rfl
  | a :: l, c, h => by
    have h1 := lastIdx_none (l := l) (c := c) (fun k _ hk => by have := h (k + 1) (by omega) (by simpa using hk); rwa [byt_succ] at this)
    have h2 := h 0 (by omega) (by simp)
    rw [byt_zero] at h2
    unfold lastIdx
    rw [if_pos h1, if_neg (fun e => h2 (by rw [e]))]
theorem lastIdx_some : ∀ {l : List UInt8} {c : UInt8} {r : Nat}, r < l.length → byt l r = (c.toNat : Int) → (∀ k, r + 1 ≤ k → k < l.length → ¬ byt l k = (c.toNat : Int)) → lastIdx l c = r
  | [], _, r, h, _, _ => by simp at h
  | a :: l, c, 0, _, h1, h2 => by
    have h3 := lastIdx_none (l := l) (c := c) (fun k _ hk => by have := h2 (k + 1) (by omega) (by simpa using hk); rwa [byt_succ] at this)
    rw [byt_zero] at h1
    have h4 : a = c := UInt8.toNat_inj.1 (by omega)
    unfold lastIdx
    rw [if_pos h3, if_pos h4]; rfl
  | a :: l, c, r + 1, h, h1, h2 => by
    rw [byt_succ] at h1
    have h3 := lastIdx_some (l := l) (c := c) (r := r) (by simpa using h) h1 (fun k hk hk' => by have := h2 (k + 1) (by omega) (by simpa using hk'); rwa [byt_succ] at this)
    unfold lastIdx
    rw [if_neg (by omega), h3]; rfl
theorem lastIdx_lt (l : List UInt8) (c : UInt8) : -1 ≤ lastIdx l c ∧ lastIdx l c < l.length := by
  induction l with
  | nil => simp [lastIdx]
  | cons a l ih =>
    unfold lastIdx
    simp only [List.length_cons]
    split
    · split <;> omega
    · omega

theorem u8_back {c : Int} (hc : 0 ≤ c ∧ c ≤ 255) : ((c.toNat.toUInt8).toNat : Int) = c := by
  have h1 : c.toNat < 256 := by omega
  rw [show (c.toNat.toUInt8).toNat = c.toNat % 256 from rfl, Nat.mod_eq_of_lt h1, Int.toNat_of_nonneg hc.1]

set_option maxRecDepth 100000 in
theorem LastIndexByteString (h : Heap) (l : List UInt8) (c : Int) (hc : 0 ≤ c ∧ c ≤ 255) (hl : l.length ≤ 9223372036854775807) : Cal Tryd.prog 43 #[str l, .int .u8 (c)] h (fun v h' => v = .int .i64 (lastIdx l c.toNat.toUInt8) ∧ h' = h) := by
 have hcc := u8_back hc
 refine Cal_enter (args := [str l, .int .u8 (c)]) Tryd.func43 rfl rfl rfl (fun σ => ?_)
 refine W_seq (W_region ?_)
 refine La rfl rfl rfl rfl ?_
 refine L_nil (X_then (W_seq (W_seq (W_region ?_))))
 refine Lm rfl rfl rfl rfl ?_
 refine L_yld (Y_slen Tryd.underlying9 rfl) rfl rfl rfl ?_
 refine L_yld (Y_sub rfl rfl (by omega) (by omega)) rfl rfl rfl ?_
 refine La rfl rfl rfl rfl ?_
 refine L_nil (X_then ?_)
 refine W_sub _ (sk4 5 4 0 1 rfl rfl rfl rfl sN) ?_
 refine W_block ?_
 refine W_loop (S := Nat) (fun n => [(0, str l), (1, .int .u8 (c)), (5, .int .i64 ((n : Int) - 1))]) (fun n h' => n ≤ l.length ∧ (∀ k, n ≤ k → k < l.length → ¬ byt l k = c) ∧ h' = h) (fun n => n) l.length (sk3 0 1 5 rfl rfl rfl sN) ?_ ?_
 ·exact ⟨Nat.le_refl _, fun k h1 h2 => absurd h2 (by omega), rfl⟩
 rintro n h ⟨hn, hz, rfl⟩
 show W _ _ _ _ _ [(0, str l), (1, .int .u8 (c)), (5, .int .i64 ((n : Int) - 1))] _
 refine W_seq (W_seq (W_region ?_))
 refine Lm rfl rfl rfl rfl ?_
 refine L_yld (Y_geq rfl rfl) rfl rfl rfl ?_
 refine L_nil (X_then ?_)
 refine W_sub _ (sk4 10 0 1 5 rfl rfl rfl rfl sN) ?_
 refine W_splitd rfl (fun hg => ?_) (fun hg => ?_)
 ·refine W_skip (X_then ?_)
  refine W_sub _ (sk3 0 1 5 rfl rfl rfl sN) ?_
  refine W_seq (W_block (W_seq (W_region ?_)))
  refine Lm rfl rfl rfl rfl ?_
  refine Lm rfl rfl rfl rfl ?_
  refine L_yld (Y_sidx Tryd.underlying9 rfl rfl (by omega) (by omega)) rfl rfl rfl ?_
  refine Lm rfl rfl rfl rfl ?_
  refine L_yld (Y_eql rfl rfl) rfl rfl rfl ?_
  refine L_nil (X_then ?_)
  refine W_sub _ (sk4 17 0 1 5 rfl rfl rfl rfl sN) ?_
  refine W_splitd rfl (fun he => ?_) (fun hne => ?_)
  ·refine W_seq (W_region ?_)
   refine Lm rfl rfl rfl rfl ?_
   refine La rfl rfl rfl rfl ?_
   refine L_nil (X_then ?_)
   refine W_sub _ (sk4 4 0 1 5 rfl rfl rfl rfl sN) ?_
   refine W_ret (X_block_ret (X_then_ret (X_then_ret (X_block_ret (X_then_ret ?_)))))
   refine X_ret1 rfl rfl ?_
   refine ⟨?_, rfl⟩
   rw [lastIdx_some (r := n - 1) (by omega) (by rw [hcc, show n - 1 = ((n : Int) - 1).toNat by omega]; exact he) (fun k h1 h2 => by rw [hcc]; exact hz k (by omega) h2)]
   congr 1; omega
  ·refine W_skip (X_block (X_then ?_))
   refine W_sub _ (sk3 0 1 5 rfl rfl rfl sN) ?_
   refine W_region ?_
   refine Lm rfl rfl rfl rfl ?_
   refine L_yld (Y_sub rfl rfl (by omega) (by omega)) rfl rfl rfl ?_
   refine La rfl rfl rfl rfl ?_
   refine L_nil ?_
   refine X_loop (n - 1) (sk2 0 1 rfl rfl (sk1 5 (lki rfl (by omega)) sN)) ?_ ?_
   ·exact ⟨by omega, fun k h1 h2 => if h3 : k = n - 1 then by subst h3; rw [show n - 1 = ((n : Int) - 1).toNat by omega]; exact hne else hz k (by omega) h2, rfl⟩
   ·(try dsimp only)
    omega
 ·refine W_exit ?_
  refine X_then_exit (X_then_exit ?_)
  refine X_block_hit ?_
  refine X_then ?_
  refine W_sub _ sN ?_
  refine W_seq (W_region ?_)
  refine La rfl rfl rfl rfl ?_
  refine L_nil (X_then (W_ret ?_))
  refine X_ret1 rfl rfl ?_
  refine ⟨?_, rfl⟩
  rw [lastIdx_none (fun k h1 h2 => by rw [hcc]; exact hz k (by omega) h2)]

set_option maxRecDepth 100000 in
theorem strings_LastIndex (h : Heap) (l : List UInt8) (u : List UInt8) (hu : u.length = 1) (hl : l.length ≤ 9223372036854775807) : Cal Tryd.prog 27 #[str l, str u] h (fun v h' => v = .int .i64 (lastIdx l (u.getD 0 0)) ∧ h' = h) := by
 have hb0 := byt_lt u 0
 refine Cal_enter (args := [str l, str u]) Tryd.func27 rfl rfl rfl (fun σ => ?_)
 refine W_seq (W_region ?_)
 refine La rfl rfl rfl rfl ?_
 refine L_nil (X_then (W_seq (W_region ?_)))
 refine Lm rfl rfl rfl rfl ?_
 refine L_yld (Y_slen Tryd.underlying9 rfl) rfl rfl rfl ?_
 refine La rfl rfl rfl rfl ?_
 refine L_nil (X_then ?_)
 refine W_sub _ (sk4 5 4 0 1 rfl rfl rfl rfl sN) ?_
 refine W_seq (W_block (W_seq (W_region ?_)))
 refine Lm rfl rfl rfl rfl ?_
 refine L_yld (Y_eql rfl rfl) rfl rfl rfl ?_
 refine La rfl rfl rfl rfl ?_
 refine L_nil (X_then ?_)
 refine W_sub _ (sk5 8 5 4 0 1 rfl rfl rfl rfl rfl sN) ?_
 refine W_known false rfl (by exact decide_eq_false (by omega)) ?_
 refine W_seq (W_region ?_)
 refine Lm rfl rfl rfl rfl ?_
 refine L_yld (Y_eql rfl rfl) rfl rfl rfl ?_
 refine La rfl rfl rfl rfl ?_
 refine L_nil (X_then ?_)
 refine W_sub _ (sk5 13 5 4 0 1 rfl rfl rfl rfl rfl sN) ?_
 refine W_known true rfl (by exact decide_eq_true (by omega)) ?_
 refine W_seq (W_region ?_)
 refine Lm rfl rfl rfl rfl ?_
 refine Lm rfl rfl rfl rfl ?_
 refine L_yld (Y_sidx Tryd.underlying9 rfl rfl (by omega) (by omega)) rfl rfl rfl ?_
 refine L_call (E_call (by kernel_rfl) rfl) (LastIndexByteString _ l (byt u 0) (by first | omega | rfl | (simp <;> omega)) (by first | omega | rfl | (simp <;> omega))) rfl rfl rfl ?_
 rintro _ h ⟨rfl, rfl⟩
 refine La rfl rfl rfl rfl ?_
 refine L_nil (X_then ?_)
 refine W_sub _ (sk3 4 0 1 rfl rfl rfl sN) ?_
 refine W_ret (X_block_ret (X_then_ret ?_))
 refine X_ret1 rfl rfl ?_
 exact ⟨by rw [byt_back], rfl⟩

set_option maxRecDepth 100000 in
theorem ref08_last (h : Heap) (l : List UInt8) (hl : l.length ≤ 9223372036854775807) : Cal Tryd.prog 54 #[str l] h (fun v h' => v = .int .i64 (lastIdx l 47) ∧ h' = h) := by
 refine Cal_enter (args := [str l]) Tryd.func54 rfl rfl rfl (fun σ => ?_)
 refine W_seq (W_region ?_)
 refine La rfl rfl rfl rfl ?_
 refine L_nil (X_then (W_seq (W_seq (W_region ?_))))
 refine Lm rfl rfl rfl rfl ?_
 refine L_yld (Y_slen Tryd.underlying9 rfl) rfl rfl rfl ?_
 refine L_yld (Y_sub rfl rfl (by omega) (by omega)) rfl rfl rfl ?_
 refine La rfl rfl rfl rfl ?_
 refine L_nil (X_then ?_)
 refine W_sub _ (sk3 3 2 0 rfl rfl rfl sN) ?_
 refine W_block ?_
 refine W_loop (S := Nat) (fun n => [(0, str l), (3, .int .i64 ((n : Int) - 1))]) (fun n h' => n ≤ l.length ∧ (∀ k, n ≤ k → k < l.length → ¬ byt l k = 47) ∧ h' = h) (fun n => n) l.length (sk2 0 3 rfl rfl sN) ?_ ?_
 ·exact ⟨Nat.le_refl _, fun k h1 h2 => absurd h2 (by omega), rfl⟩
 rintro n h ⟨hn, hz, rfl⟩
 show W _ _ _ _ _ [(0, str l), (3, .int .i64 ((n : Int) - 1))] _
 refine W_seq (W_seq (W_region ?_))
 refine Lm rfl rfl rfl rfl ?_
 refine L_yld (Y_geq rfl rfl) rfl rfl rfl ?_
 refine L_nil (X_then ?_)
 refine W_sub _ (sk3 8 0 3 rfl rfl rfl sN) ?_
 refine W_splitd rfl (fun hg => ?_) (fun hg => ?_)
 ·refine W_skip (X_then ?_)
  refine W_sub _ (sk2 0 3 rfl rfl sN) ?_
  refine W_seq (W_block (W_seq (W_region ?_)))
  refine Lm rfl rfl rfl rfl ?_
  refine Lm rfl rfl rfl rfl ?_
  refine L_yld (Y_sidx Tryd.underlying9 rfl rfl (by omega) (by omega)) rfl rfl rfl ?_
  refine L_yld (Y_eql rfl rfl) rfl rfl rfl ?_
  refine L_nil (X_then ?_)
  refine W_sub _ (sk3 14 0 3 rfl rfl rfl sN) ?_
  refine W_splitd rfl (fun he => ?_) (fun hne => ?_)
  ·refine W_seq (W_region ?_)
   refine Lm rfl rfl rfl rfl ?_
   refine La rfl rfl rfl rfl ?_
   refine L_nil (X_then ?_)
   refine W_sub _ (sk3 2 0 3 rfl rfl rfl sN) ?_
   refine W_ret (X_block_ret (X_then_ret (X_then_ret (X_block_ret (X_then_ret ?_)))))
   refine X_ret1 rfl rfl ?_
   refine ⟨?_, rfl⟩
   rw [lastIdx_some (c := 47) (r := n - 1) (by omega) (by rw [show n - 1 = ((n : Int) - 1).toNat by omega]; exact he) (fun k h1 h2 => hz k (by omega) h2)]
   congr 1; omega
  ·refine W_skip (X_block (X_then ?_))
   refine W_sub _ (sk2 0 3 rfl rfl sN) ?_
   refine W_region ?_
   refine Lm rfl rfl rfl rfl ?_
   refine L_yld (Y_sub rfl rfl (by omega) (by omega)) rfl rfl rfl ?_
   refine La rfl rfl rfl rfl ?_
   refine L_nil ?_
   refine X_loop (n - 1) (sk1 0 rfl (sk1 3 (lki rfl (by omega)) sN)) ?_ ?_
   ·exact ⟨by omega, fun k h1 h2 => if h3 : k = n - 1 then by subst h3; rw [show n - 1 = ((n : Int) - 1).toNat by omega]; exact hne else hz k (by omega) h2, rfl⟩
   ·(try dsimp only)
    omega
 ·refine W_exit ?_
  refine X_then_exit (X_then_exit ?_)
  refine X_block_hit ?_
  refine X_then ?_
  refine W_sub _ sN ?_
  refine W_seq (W_region ?_)
  refine La rfl rfl rfl rfl ?_
  refine L_nil (X_then (W_ret ?_))
  refine X_ret1 rfl rfl ?_
  refine ⟨?_, rfl⟩
  rw [lastIdx_none (c := 47) (fun k h1 h2 => hz k (by omega) h2)]

/-! ### Parent, Base, Join -/
def pparent (p : List UInt8) : List UInt8 := if lastIdx p 47 < 0 then [] else p.take (lastIdx p 47).toNat
def pbase (p : List UInt8) : List UInt8 := p.drop (lastIdx p 47 + 1).toNat
def pjoin (a b : List UInt8) : List UInt8 := if a = [] then b else a ++ [47] ++ b

set_option maxRecDepth 100000 in
theorem pathname_Parent (h : Heap) (p : List UInt8) (hl : p.length ≤ 9223372036854775807) : Cal Tryd.prog 16 #[str p] h (fun v h' => v = str (pparent p) ∧ h' = h) := by
 have hi : -1 ≤ lastIdx p ([47].getD 0 0) ∧ lastIdx p ([47].getD 0 0) < p.length := lastIdx_lt p 47
 refine Cal_enter (args := [str p]) Tryd.func16 rfl rfl rfl (fun σ => ?_)
 refine W_seq (W_region ?_)
 refine La rfl rfl rfl rfl ?_
 refine L_nil (X_then (W_seq (W_region ?_)))
 refine Lm rfl rfl rfl rfl ?_
 refine L_call (E_call (by kernel_rfl) rfl) (strings_LastIndex _ p [47] (by first | omega | rfl | (simp <;> omega)) (by first | omega | rfl | (simp <;> omega))) rfl rfl rfl ?_
 rintro _ h ⟨rfl, rfl⟩
 refine La rfl rfl rfl rfl ?_
 refine L_nil (X_then ?_)
 refine W_sub _ (sk3 3 2 0 rfl rfl rfl sN) ?_
 refine W_seq (W_seq (W_region ?_))
 refine Lm rfl rfl rfl rfl ?_
 refine L_yld (Y_lss rfl rfl) rfl rfl rfl ?_
 refine L_nil (X_then ?_)
 refine W_sub _ (sk4 7 3 2 0 rfl rfl rfl rfl sN) ?_
 refine W_splitd rfl (fun g => ?_) (fun g => ?_)
 ·refine W_seq (W_region ?_)
  refine La rfl rfl rfl rfl ?_
  refine L_nil (X_then ?_)
  refine W_sub _ (sk3 2 3 0 rfl rfl rfl sN) ?_
  refine W_ret (X_then_ret ?_)
  refine X_ret1 rfl rfl ?_
  have g' : lastIdx p 47 < 0 := g
  exact ⟨by unfold pparent; rw [if_pos g'], rfl⟩
 ·refine W_skip (X_then ?_)
  refine W_sub _ (sk3 3 2 0 rfl rfl rfl sN) ?_
  refine W_seq (W_region ?_)
  refine Lm rfl rfl rfl rfl ?_
  refine Lm rfl rfl rfl rfl ?_
  refine L_yld (Y_sslice_h Tryd.underlying9 rfl rfl (by omega) (by omega)) rfl rfl rfl ?_
  refine La rfl rfl rfl rfl ?_
  refine L_nil (X_then ?_)
  refine W_sub _ (sk1 2 rfl sN) ?_
  refine W_ret ?_
  refine X_ret1 rfl rfl ?_
  have g' : ¬ lastIdx p 47 < 0 := g
  exact ⟨by unfold pparent; rw [if_neg g']; rfl, rfl⟩

set_option maxRecDepth 100000 in
theorem ref08_Parent (h : Heap) (p : List UInt8) (hl : p.length ≤ 9223372036854775807) : Cal Tryd.prog 42 #[str p] h (fun v h' => v = str (pparent p) ∧ h' = h) := by
 have hi : -1 ≤ lastIdx p 47 ∧ lastIdx p 47 < p.length := lastIdx_lt p 47
 refine Cal_enter (args := [str p]) Tryd.func42 rfl rfl rfl (fun σ => ?_)
 refine W_seq (W_region ?_)
 refine La rfl rfl rfl rfl ?_
 refine L_nil (X_then (W_seq (W_region ?_)))
 refine Lm rfl rfl rfl rfl ?_
 refine L_call (E_call (by kernel_rfl) rfl) (ref08_last _ p (by first | omega | rfl | (simp <;> omega))) rfl rfl rfl ?_
 rintro _ h ⟨rfl, rfl⟩
 refine La rfl rfl rfl rfl ?_
 refine L_nil (X_then ?_)
 refine W_sub _ (sk3 3 2 0 rfl rfl rfl sN) ?_
 refine W_seq (W_seq (W_region ?_))
 refine Lm rfl rfl rfl rfl ?_
 refine L_yld (Y_lss rfl rfl) rfl rfl rfl ?_
 refine L_nil (X_then ?_)
 refine W_sub _ (sk4 7 3 2 0 rfl rfl rfl rfl sN) ?_
 refine W_splitd rfl (fun g => ?_) (fun g => ?_)
 ·refine W_seq (W_region ?_)
  refine La rfl rfl rfl rfl ?_
  refine L_nil (X_then ?_)
  refine W_sub _ (sk3 2 3 0 rfl rfl rfl sN) ?_
  refine W_ret (X_then_ret ?_)
  refine X_ret1 rfl rfl ?_
  exact ⟨by unfold pparent; rw [if_pos g], rfl⟩
 ·refine W_skip (X_then ?_)
  refine W_sub _ (sk3 3 2 0 rfl rfl rfl sN) ?_
  refine W_seq (W_region ?_)
  refine Lm rfl rfl rfl rfl ?_
  refine Lm rfl rfl rfl rfl ?_
  refine L_yld (Y_sslice_h Tryd.underlying9 rfl rfl (by omega) (by omega)) rfl rfl rfl ?_
  refine La rfl rfl rfl rfl ?_
  refine L_nil (X_then ?_)
  refine W_sub _ (sk1 2 rfl sN) ?_
  refine W_ret ?_
  refine X_ret1 rfl rfl ?_
  exact ⟨by unfold pparent; rw [if_neg g], rfl⟩





/-! ### Compare -/
def pcmp (a b : List UInt8) : Int := if Op.bytesLess a b = true then -1 else if a = b then 0 else 1

set_option maxRecDepth 100000 in
theorem isNaN_string (h : Heap) (a : List UInt8) : Cal Tryd.prog 49 #[str a] h (fun v h' => v = .bool (decide (¬ a = a)) ∧ h' = h) := by
 refine Cal_enter (args := [str a]) Tryd.func49 rfl rfl rfl (fun σ => ?_)
 refine W_seq (W_region ?_)
 refine La rfl rfl rfl rfl ?_
 refine L_nil (X_then (W_seq (W_region ?_)))
 refine Lm rfl rfl rfl rfl ?_
 refine Lm rfl rfl rfl rfl ?_
 refine L_yld (Y_sneq rfl rfl) rfl rfl rfl ?_
 refine La rfl rfl rfl rfl ?_
 refine L_nil (X_then ?_)
 refine W_sub _ (sk1 2 rfl sN) ?_
 refine W_ret ?_
 refine X_ret1 rfl rfl ?_
 exact ⟨rfl, rfl⟩

set_option maxRecDepth 100000 in
theorem cmp_Compare (h : Heap) (a : List UInt8) (b : List UInt8) : Cal Tryd.prog 36 #[str a, str b] h (fun v h' => v = .int .i64 (pcmp a b) ∧ h' = h) := by
 refine Cal_enter (args := [str a, str b]) Tryd.func36 rfl rfl rfl (fun σ => ?_)
 refine W_seq (W_region ?_)
 refine La rfl rfl rfl rfl ?_
 refine L_nil (X_then (W_seq (W_region ?_)))
 refine Lm rfl rfl rfl rfl ?_
 refine L_call (E_call (by kernel_rfl) rfl) (isNaN_string _ a) rfl rfl rfl ?_
 rintro _ h ⟨rfl, rfl⟩
 refine La rfl rfl rfl rfl ?_
 refine L_nil (X_then ?_)
 refine W_sub _ (sk4 5 4 0 1 rfl rfl rfl rfl sN) ?_
 refine W_seq (W_region ?_)
 refine Lm rfl rfl rfl rfl ?_
 refine L_call (E_call (by kernel_rfl) rfl) (isNaN_string _ b) rfl rfl rfl ?_
 rintro _ h ⟨rfl, rfl⟩
 refine La rfl rfl rfl rfl ?_
 refine L_nil (X_then ?_)
 refine W_sub _ (sk5 6 5 4 0 1 rfl rfl rfl rfl rfl sN) ?_
 refine W_seq (W_seq (W_region ?_))
 refine Lm rfl rfl rfl rfl ?_
 refine L_nil (X_then ?_)
 refine W_sub _ (sk5 11 6 4 0 1 rfl rfl rfl rfl rfl sN) ?_
 refine W_known false rfl (by exact decide_eq_false (by simp)) ?_
 refine W_skip (X_then ?_)
 refine W_sub _ (sk4 6 4 0 1 rfl rfl rfl rfl sN) ?_
 refine W_seq (W_seq (W_region ?_))
 refine Lm rfl rfl rfl rfl ?_
 refine L_nil (X_then ?_)
 refine W_sub _ (sk4 13 4 0 1 rfl rfl rfl rfl sN) ?_
 refine W_known false rfl (by exact decide_eq_false (by simp)) ?_
 refine W_skip (X_then ?_)
 refine W_sub _ (sk3 4 0 1 rfl rfl rfl sN) ?_
 refine W_seq (W_seq (W_region ?_))
 refine Lm rfl rfl rfl rfl ?_
 refine Lm rfl rfl rfl rfl ?_
 refine L_yld (Y_slss rfl rfl) rfl rfl rfl ?_
 refine L_nil (X_then ?_)
 refine W_sub _ (sk4 16 4 0 1 rfl rfl rfl rfl sN) ?_
 refine W_split rfl (fun g1 => ?_) (fun g1 => ?_)
 ·refine W_seq (W_region ?_)
  refine La rfl rfl rfl rfl ?_
  refine L_nil (X_then ?_)
  refine W_sub _ (sk3 4 0 1 rfl rfl rfl sN) ?_
  refine W_ret (X_then_ret ?_)
  refine X_ret1 rfl rfl ?_
  exact ⟨by unfold pcmp; rw [if_pos g1], rfl⟩
 ·refine W_skip (X_then ?_)
  refine W_sub _ (sk3 4 0 1 rfl rfl rfl sN) ?_
  refine W_seq (W_seq (W_region ?_))
  refine Lm rfl rfl rfl rfl ?_
  refine Lm rfl rfl rfl rfl ?_
  refine L_yld (Y_sgtr rfl rfl) rfl rfl rfl ?_
  refine L_nil (X_then ?_)
  refine W_sub _ (sk2 19 4 rfl rfl sN) ?_
  refine W_split rfl (fun g2 => ?_) (fun g2 => ?_)
  ·refine W_seq (W_region ?_)
   refine La rfl rfl rfl rfl ?_
   refine L_nil (X_then ?_)
   refine W_sub _ (sk1 4 rfl sN) ?_
   refine W_ret (X_then_ret ?_)
   refine X_ret1 rfl rfl ?_
   refine ⟨?_, rfl⟩
   simp [g1] at g2
   unfold pcmp
   rw [if_neg (by simp [g1]), if_neg g2]
  ·refine W_skip (X_then ?_)
   refine W_sub _ (sk1 4 rfl sN) ?_
   refine W_seq (W_region ?_)
   refine La rfl rfl rfl rfl ?_
   refine L_nil (X_then (W_ret ?_))
   refine X_ret1 rfl rfl ?_
   refine ⟨?_, rfl⟩
   simp [g1] at g2
   unfold pcmp
   rw [if_neg (by simp [g1]), if_pos g2]


theorem less_at : ∀ {a b : List UInt8} {i : Nat}, (∀ k, k < i → byt a k = byt b k) → i < a.length → i < b.length → byt a i < byt b i → Op.bytesLess a b = true
  | [], _, i, _, h, _, _ => by simp at h
  | _ :: _, [], i, _, _, h, _ => by simp at h
  | x :: a, y :: b, 0, _, _, _, h => by
    rw [byt_zero, byt_zero] at h
    have : x < y := UInt8.lt_iff_toNat_lt.2 (by omega)
    simp [Op.bytesLess, this]
  | x :: a, y :: b, i + 1, h0, h1, h2, h => by
    rw [byt_succ, byt_succ] at h
    have h3 := h0 0 (by omega)
    rw [byt_zero, byt_zero] at h3
    have h4 : x = y := UInt8.toNat_inj.1 (by omega)
    have h5 := less_at (a := a) (b := b) (i := i) (fun k hk => by have := h0 (k + 1) (by omega); rwa [byt_succ, byt_succ] at this) (by simpa using h1) (by simpa using h2) h
    simp [Op.bytesLess, h4, h5]
theorem less_short : ∀ {a b : List UInt8}, (∀ k, k < a.length → byt a k = byt b k) → a.length < b.length → Op.bytesLess a b = true
  | [], y :: b, _, _ => rfl
  | [], [], _, h => by simp at h
  | _ :: _, [], _, h => by simp at h
  | x :: a, y :: b, h0, h1 => by
    have h3 := h0 0 (by simp)
    rw [byt_zero, byt_zero] at h3
    have h4 : x = y := UInt8.toNat_inj.1 (by omega)
    have h5 := less_short (a := a) (b := b) (fun k hk => by have := h0 (k + 1) (by simpa using hk); rwa [byt_succ, byt_succ] at this) (by simpa using h1)
    simp [Op.bytesLess, h4, h5]
theorem less_irrefl : ∀ (a : List UInt8), Op.bytesLess a a = false
  | [] => rfl
  | x :: a => by simp [Op.bytesLess, less_irrefl a]
theorem less_asymm : ∀ {a b : List UInt8}, Op.bytesLess a b = true → Op.bytesLess b a = false
  | [], [], h => by simp [Op.bytesLess] at h
  | [], _ :: _, _ => rfl
  | _ :: _, [], h => by simp [Op.bytesLess] at h
  | x :: a, y :: b, h => by
    simp only [Op.bytesLess, Bool.or_eq_true, decide_eq_true_eq, Bool.and_eq_true, beq_iff_eq] at h
    rcases h with h | ⟨rfl, h⟩
    · have h1 : ¬ y < x := fun h2 => by rw [UInt8.lt_iff_toNat_lt] at h h2; omega
      have h2 : ¬ y = x := fun h2 => by subst h2; rw [UInt8.lt_iff_toNat_lt] at h; omega
      simp [Op.bytesLess, h1, h2]
    · simp [Op.bytesLess, less_asymm h]
theorem byt_ext : ∀ {a b : List UInt8}, a.length = b.length → (∀ k, k < a.length → byt a k = byt b k) → a = b
  | [], [], _, _ => rfl
  | [], _ :: _, h, _ => by simp at h
  | _ :: _, [], h, _ => by simp at h
  | x :: a, y :: b, h, h0 => by
    have h3 := h0 0 (by simp)
    rw [byt_zero, byt_zero] at h3
    have h4 : x = y := UInt8.toNat_inj.1 (by omega)
    rw [h4, byt_ext (a := a) (b := b) (by simpa using h) (fun k hk => by have := h0 (k + 1) (by simpa using hk); rwa [byt_succ, byt_succ] at this)]
theorem pcmp_lt {a b : List UInt8} (h : Op.bytesLess a b = true) : pcmp a b = -1 := by unfold pcmp; rw [if_pos h]
theorem pcmp_gt {a b : List UInt8} (h : Op.bytesLess b a = true) : pcmp a b = 1 := by
  unfold pcmp
  rw [if_neg (by simp [less_asymm h]), if_neg (fun e => by subst e; rw [less_irrefl] at h; cases h)]
theorem pcmp_eq (a : List UInt8) : pcmp a a = 0 := by unfold pcmp; simp [less_irrefl]

set_option maxRecDepth 100000 in
theorem ref08_Compare (h : Heap) (a : List UInt8) (b : List UInt8) (ha : a.length ≤ 9223372036854775807) : Cal Tryd.prog 30 #[str a, str b] h (fun v h' => v = .int .i64 (pcmp a b) ∧ h' = h) := by
 refine Cal_enter (args := [str a, str b]) Tryd.func30 rfl rfl rfl (fun σ => ?_)
 refine W_seq (W_region ?_)
 refine La rfl rfl rfl rfl ?_
 refine L_nil (X_then (W_seq (W_seq (W_region ?_))))
 refine La rfl rfl rfl rfl ?_
 refine L_nil (X_then (W_block ?_))
 refine W_loop (S := Nat) (fun i => [(0, str a), (1, str b), (5, .int .i64 ((i : Int)))]) (fun i h' => i ≤ a.length ∧ i ≤ b.length ∧ (∀ k, k < i → byt a k = byt b k) ∧ h' = h) (fun i => a.length - i) 0 (sk3 0 1 5 rfl rfl rfl sN) ?_ ?_
 ·exact ⟨by omega, by omega, fun k h1 => absurd h1 (by omega), rfl⟩
 rintro i h ⟨hia, hib, hz, rfl⟩
 show W _ _ _ _ _ [(0, str a), (1, str b), (5, .int .i64 ((i : Int)))] _
 refine W_seq ?_
 refine W_cut (S := Unit) (fun _ => [(15, .bool (decide (((i : Int) < (a.length : Int)) ∧ ((i : Int) < (b.length : Int))))), (0, str a), (1, str b), (5, .int .i64 ((i : Int)))]) (fun _ h' => h' = h) ?_ ?_
 ·refine W_region ?_
  refine Lm rfl rfl rfl rfl ?_
  refine Lm rfl rfl rfl rfl ?_
  refine L_yld (Y_slen Tryd.underlying9 rfl) rfl rfl rfl ?_
  refine L_yld (Y_lss rfl rfl) rfl rfl rfl ?_
  refine Lm rfl rfl rfl rfl ?_
  refine L_splitd (d := 10) rfl (fun g => ?_) (fun g => ?_)
  ·refine L_yld (Y_move rfl) rfl rfl rfl ?_
   refine Lm rfl rfl rfl rfl ?_
   refine L_yld (Y_slen Tryd.underlying9 rfl) rfl rfl rfl ?_
   refine L_yld (Y_lss rfl rfl) rfl rfl rfl ?_
   refine L_yld (Y_pick_t rfl rfl) rfl rfl rfl ?_
   refine L_nil ?_
   exact X_cut () (sk1 15 (lkb rfl (by first | (simp only [eq_true g, SB]; done) | (simp only [eq_true g, SB]; rfl))) (sk1 0 rfl (sk1 1 rfl (sk1 5 rfl sN)))) rfl
  ·refine L_skip rfl rfl rfl ?_
   refine L_skip rfl rfl rfl ?_
   refine L_skip rfl rfl rfl ?_
   refine L_skip rfl rfl rfl ?_
   refine L_yld (Y_pick_f rfl rfl) rfl rfl rfl ?_
   refine L_nil ?_
   exact X_cut () (sk1 15 (lkb rfl (by first | (simp only [eq_false g, SB]; done) | (simp only [eq_false g, SB]; rfl))) (sk1 0 rfl (sk1 1 rfl (sk1 5 rfl sN)))) rfl
 rintro _ h rfl
 show W _ _ _ _ _ [(15, .bool (decide (((i : Int) < (a.length : Int)) ∧ ((i : Int) < (b.length : Int))))), (0, str a), (1, str b), (5, .int .i64 ((i : Int)))] _
 refine W_splitd rfl (fun hl => ?_) (fun hl => ?_)
 ·refine W_skip (X_then ?_)
  refine W_sub _ (sk3 0 1 5 rfl rfl rfl sN) ?_
  refine W_seq (W_block (W_seq (W_seq ?_)))
  refine W_quiet (fun h' => h' = h) (by kernel_rfl) (by kernel_rfl) rfl ?_
  refine LQ_yld (fun h_ hI_ => by subst hI_; exact Y_move rfl) rfl rfl rfl ?_
  refine LQ_yld (fun h_ hI_ => by subst hI_; exact Y_move rfl) rfl rfl rfl ?_
  refine LQ_yld (fun h_ hI_ => by subst hI_; exact Y_sidx Tryd.underlying9 rfl rfl (by omega) (by omega)) rfl rfl rfl ?_
  refine LQ_yld (fun h_ hI_ => by subst hI_; exact Y_move rfl) rfl rfl rfl ?_
  refine LQ_yld (fun h_ hI_ => by subst hI_; exact Y_move rfl) rfl rfl rfl ?_
  refine LQ_yld (fun h_ hI_ => by subst hI_; exact Y_sidx Tryd.underlying9 rfl rfl (by omega) (by omega)) rfl rfl rfl ?_
  refine LQ_yld (fun h_ hI_ => by subst hI_; exact Y_lss rfl rfl) rfl rfl rfl ?_
  refine LQ_nil ?_
  rintro h rfl
  refine X_then ?_
  refine W_sub _ (sk4 24 0 1 5 rfl rfl rfl rfl sN) ?_
  refine W_splitd rfl (fun h1 => ?_) (fun h1 => ?_)
  ·refine W_seq (W_region ?_)
   refine La rfl rfl rfl rfl ?_
   refine L_nil (X_then ?_)
   refine W_sub _ (sk4 4 0 1 5 rfl rfl rfl rfl sN) ?_
   refine W_ret (X_then_ret (X_block_ret (X_then_ret (X_then_ret (X_block_ret (X_then_ret ?_))))))
   refine X_ret1 rfl rfl ?_
   exact ⟨by rw [pcmp_lt (less_at (i := i) hz (by omega) (by omega) h1)], rfl⟩
  ·refine W_skip (X_then ?_)
   refine W_sub _ (sk3 0 1 5 rfl rfl rfl sN) ?_
   refine W_seq ?_
   refine W_quiet (fun h' => h' = h) (by kernel_rfl) (by kernel_rfl) rfl ?_
   refine LQ_yld (fun h_ hI_ => by subst hI_; exact Y_move rfl) rfl rfl rfl ?_
   refine LQ_yld (fun h_ hI_ => by subst hI_; exact Y_move rfl) rfl rfl rfl ?_
   refine LQ_yld (fun h_ hI_ => by subst hI_; exact Y_sidx Tryd.underlying9 rfl rfl (by omega) (by omega)) rfl rfl rfl ?_
   refine LQ_yld (fun h_ hI_ => by subst hI_; exact Y_move rfl) rfl rfl rfl ?_
   refine LQ_yld (fun h_ hI_ => by subst hI_; exact Y_move rfl) rfl rfl rfl ?_
   refine LQ_yld (fun h_ hI_ => by subst hI_; exact Y_sidx Tryd.underlying9 rfl rfl (by omega) (by omega)) rfl rfl rfl ?_
   refine LQ_yld (fun h_ hI_ => by subst hI_; exact Y_gtr rfl rfl) rfl rfl rfl ?_
   refine LQ_nil ?_
   rintro h rfl
   refine X_then ?_
   refine W_sub _ (sk4 31 0 1 5 rfl rfl rfl rfl sN) ?_
   refine W_splitd rfl (fun h2 => ?_) (fun h2 => ?_)
   ·refine W_seq (W_region ?_)
    refine La rfl rfl rfl rfl ?_
    refine L_nil (X_then ?_)
    refine W_sub _ (sk4 4 0 1 5 rfl rfl rfl rfl sN) ?_
    refine W_ret (X_block_ret (X_then_ret (X_then_ret (X_block_ret (X_then_ret ?_)))))
    refine X_ret1 rfl rfl ?_
    exact ⟨by rw [pcmp_gt (less_at (i := i) (fun k hk => (hz k hk).symm) (by omega) (by omega) h2)], rfl⟩
   ·refine W_skip (X_block (X_then ?_))
    refine W_sub _ (sk3 0 1 5 rfl rfl rfl sN) ?_
    refine W_region ?_
    refine Lm rfl rfl rfl rfl ?_
    refine L_yld (Y_add rfl rfl (by omega) (by omega)) rfl rfl rfl ?_
    refine La rfl rfl rfl rfl ?_
    refine L_nil ?_
    refine X_loop (i + 1) (sk3 0 1 5 rfl rfl rfl sN) ?_ ?_
    ·exact ⟨by omega, by omega, step_ne hz (by have h1' := h1; have h2' := h2; simp only [Int.toNat_natCast] at h1' h2'; omega), rfl⟩
    ·(try dsimp only)
     omega
 ·refine W_exit ?_
  refine X_then_exit (X_then_exit ?_)
  refine X_block_hit ?_
  refine X_then ?_
  refine W_sub _ (sk2 0 1 rfl rfl sN) ?_
  refine W_seq (W_seq (W_region ?_))
  refine Lm rfl rfl rfl rfl ?_
  refine L_yld (Y_slen Tryd.underlying9 rfl) rfl rfl rfl ?_
  refine Lm rfl rfl rfl rfl ?_
  refine L_yld (Y_slen Tryd.underlying9 rfl) rfl rfl rfl ?_
  refine L_yld (Y_lss rfl rfl) rfl rfl rfl ?_
  refine L_nil (X_then ?_)
  refine W_sub _ (sk3 36 0 1 rfl rfl rfl sN) ?_
  refine W_splitd rfl (fun h1 => ?_) (fun h1 => ?_)
  ·refine W_seq (W_region ?_)
   refine La rfl rfl rfl rfl ?_
   refine L_nil (X_then ?_)
   refine W_sub _ (sk3 4 0 1 rfl rfl rfl sN) ?_
   refine W_ret (X_then_ret ?_)
   refine X_ret1 rfl rfl ?_
   exact ⟨by rw [pcmp_lt (less_short (fun k hk => hz k (by omega)) (by omega))], rfl⟩
  ·refine W_skip (X_then ?_)
   refine W_sub _ (sk2 0 1 rfl rfl sN) ?_
   refine W_seq (W_seq (W_region ?_))
   refine Lm rfl rfl rfl rfl ?_
   refine L_yld (Y_slen Tryd.underlying9 rfl) rfl rfl rfl ?_
   refine Lm rfl rfl rfl rfl ?_
   refine L_yld (Y_slen Tryd.underlying9 rfl) rfl rfl rfl ?_
   refine L_yld (Y_gtr rfl rfl) rfl rfl rfl ?_
   refine L_nil (X_then ?_)
   refine W_sub _ (sk1 41 rfl sN) ?_
   refine W_splitd rfl (fun h2 => ?_) (fun h2 => ?_)
   ·refine W_seq (W_region ?_)
    refine La rfl rfl rfl rfl ?_
    refine L_nil (X_then ?_)
    refine W_sub _ (sk1 4 rfl sN) ?_
    refine W_ret (X_then_ret ?_)
    refine X_ret1 rfl rfl ?_
    exact ⟨by rw [pcmp_gt (less_short (fun k hk => (hz k (by omega)).symm) (by omega))], rfl⟩
   ·refine W_skip (X_then ?_)
    refine W_sub _ sN ?_
    refine W_seq (W_region ?_)
    refine La rfl rfl rfl rfl ?_
    refine L_nil (X_then (W_ret ?_))
    refine X_ret1 rfl rfl ?_
    have he : a = b := byt_ext (by omega) (fun k hk => hz k (by omega))
    subst he
    exact ⟨by rw [pcmp_eq], rfl⟩

/-! ### Split -/
/-- Slash 'i' parts 'p' into fields that fit. -/
def fits8 (p : List UInt8) (i : Nat) : Prop := 1 ≤ i ∧ i ≤ 155 ∧ i + 2 ≤ p.length ∧ p.length ≤ i + 101 ∧ byt p i = 47
def from8 (p : List UInt8) : Int := max 1 ((p.length : Int) - 100 - 1)
def slash8 (p : List UInt8) : Int := if Lib.indexByte (p.drop (from8 p).toNat) 47 < 0 then -1 else from8 p + Lib.indexByte (p.drop (from8 p).toNat) 47
def bad8 (p : List UInt8) : Bool := decide (slash8 p < 0 ∨ 155 < slash8 p ∨ slash8 p = p.length - 1)
def sok (p : List UInt8) : Bool := decide (p.length ≤ 100) || !bad8 p
def spre (p : List UInt8) : List UInt8 := if p.length ≤ 100 then [] else if bad8 p = true then [] else p.take (slash8 p).toNat
def snam (p : List UInt8) : List UInt8 := if p.length ≤ 100 then p else if bad8 p = true then [] else p.drop (slash8 p + 1).toNat


/-- The slash that Split takes: the first that fits. -/
theorem slash8_first {p : List UInt8} (hl : ¬ p.length ≤ 100) : (bad8 p = true ∧ ∀ i, ¬ fits8 p i) ∨ (bad8 p = false ∧ ∃ k : Nat, slash8 p = k ∧ fits8 p k ∧ ∀ i, i < k → ¬ fits8 p i) := by
  have hF1 : 1 ≤ from8 p ∧ ((p.length : Int) - 101 ≤ from8 p) ∧ (from8 p ≤ (p.length : Int) - 101 ∨ from8 p = 1) := by unfold from8; omega
  have hg := Lib.indexByte_ge (p.drop (from8 p).toNat) 47
  have hlt := indexByte_lt (p.drop (from8 p).toNat) 47
  simp only [List.length_drop] at hlt
  obtain ⟨F, hF⟩ : ∃ F : Nat, from8 p = F := ⟨(from8 p).toNat, by omega⟩
  unfold bad8 slash8
  rw [hF] at hF1 hg hlt ⊢
  simp only [Int.toNat_natCast] at hg hlt ⊢
  by_cases hI : Lib.indexByte (p.drop F) 47 < 0
  · left
    have hn := Lib.indexByte_none (l := p.drop F) (c := 47) (by omega)
    refine ⟨by rw [if_pos hI]; simp, fun i hi => ?_⟩
    obtain ⟨h1, h2, h3, h4, h5⟩ := hi
    apply hn (i - F)
    rw [List.getElem?_drop, show F + (i - F) = i by omega, List.getElem?_eq_getElem (by omega)]
    rw [byt_eq (by omega)] at h5
    congr 1
    exact UInt8.toNat_inj.1 (Int.ofNat_inj.1 h5)
  · obtain ⟨o, ho⟩ : ∃ o : Nat, Lib.indexByte (p.drop F) 47 = o := ⟨(Lib.indexByte (p.drop F) 47).toNat, by omega⟩
    obtain ⟨hs1, hs2⟩ := Lib.indexByte_some ho
    rw [ho] at hlt ⊢
    rw [if_neg (by omega)]
    have hb : byt p (F + o) = 47 := by
      rw [List.getElem?_drop, List.getElem?_eq_getElem (by omega)] at hs1
      rw [byt_eq (by omega), Option.some.inj hs1]; rfl
    have hno : ∀ i, F ≤ i → i < F + o → ¬ byt p i = 47 := fun i h1 h2 h3 => by
      apply hs2 (i - F) (by omega)
      rw [List.getElem?_drop, show F + (i - F) = i by omega, List.getElem?_eq_getElem (by omega)]
      rw [byt_eq (by omega)] at h3
      congr 1
      exact UInt8.toNat_inj.1 (Int.ofNat_inj.1 h3)
    by_cases hbad : ((F : Int) + o < 0 ∨ 155 < (F : Int) + o ∨ (F : Int) + o = p.length - 1)
    · left
      refine ⟨decide_eq_true hbad, fun i hi => ?_⟩
      obtain ⟨h1, h2, h3, h4, h5⟩ := hi
      have : ¬ i < F + o := fun h => hno i (by omega) h h5
      omega
    · right
      refine ⟨decide_eq_false hbad, F + o, by simp, ⟨by omega, by omega, by omega, by omega, hb⟩, fun i h hi => ?_⟩
      obtain ⟨h1, h2, h3, h4, h5⟩ := hi
      exact hno i (by omega) h h5


end Go.Xp
