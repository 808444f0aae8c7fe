/- Layer 12 (entry): the reference's Encode, IsZero on both sides, and the law that they agree. -/
import Derived.Test.YtmmpnieglihhnaaGreatDoorEncV
set_option linter.unusedSimpArgs false
set_option linter.unusedVariables false
set_option linter.unusedSectionVars false
namespace Go.Xp
open Go.Proofs

/-- The index of the first byte that is not zero, or -1. -/
def nzx : List UInt8 → Int
  | [] => -1
  | a :: l => if ¬ a = 0 then 0 else if nzx l < 0 then -1 else nzx l + 1
theorem nzx_found : ∀ {l : List UInt8} {m : Nat}, (∀ k, k < m → byt l k = 0) → m < l.length → ¬ byt l m = 0 → nzx l = m
  | [], _, _, h, _ => by simp at h
  | a :: l, 0, _, _, h => if_pos (fun e => h (by rw [e]; rfl))
  | a :: l, m + 1, hd, hl, h => by
    have h0 : ((a.toNat : Nat) : Int) = 0 := hd 0 (by omega)
    have ha : a = 0 := UInt8.toNat_inj.1 (by show a.toNat = 0; omega)
    have ih := nzx_found (l := l) (m := m) (fun k hk => by have := hd (k + 1) (by omega); rwa [byt_succ] at this) (by simpa using hl) (by rwa [byt_succ] at h)
    unfold nzx
    rw [if_neg (fun e => e ha), ih, if_neg (by omega)]; omega
theorem nzx_none : ∀ {l : List UInt8}, (∀ k, k < l.length → byt l k = 0) → nzx l = -1
  | [], _ => rfl
  | a :: l, hd => by
    have h0 : ((a.toNat : Nat) : Int) = 0 := hd 0 (by simp)
    have ha : a = 0 := UInt8.toNat_inj.1 (by show a.toNat = 0; omega)
    have ih := nzx_none (l := l) (fun k hk => by have := hd (k + 1) (by simpa using hk); rwa [byt_succ] at this)
    unfold nzx
    rw [if_neg (fun e => e ha), ih]; rfl
set_option maxRecDepth 100000 in
theorem isZero_nz (h : Heap) (c : Int) : Cal Tryz.prog 21 #[.int .u8 (c)] h (fun v h' => v = .bool (decide (¬ c = 0)) ∧ h' = h) := by
  refine Cal_enter (args := [.int .u8 (c)]) Tryz.func21 rfl rfl rfl (fun σ => ?_)
  refine W_seq ?_
  refine W_region ?_
  refine L_yld (Y_assign rfl) rfl rfl rfl ?_
  refine L_nil ?_
  refine X_then ?_
  refine W_seq ?_
  refine W_region ?_
  refine L_yld (Y_move rfl) rfl rfl rfl ?_
  refine L_yld (Y_neq rfl rfl) rfl rfl rfl ?_
  refine L_yld (Y_assign rfl) rfl rfl rfl ?_
  refine L_nil ?_
  refine X_then ?_
  refine W_sub _ (.cons (i := 2) rfl (.nil _)) ?_
  refine W_ret ?_
  refine X_ret1 rfl rfl ?_
  exact ⟨rfl, rfl⟩
set_option maxRecDepth 100000 in
theorem slices_IndexNz (h : Heap) (v : Value) (l : List UInt8) (hb : Bytes h v l) (hn : l.length ≤ 140737488355328) : Cal Tryz.prog 49 #[v, .func (.func 21) #[] #[]] h (fun v h' => v = .int .i64 (nzx l) ∧ h' = h) := by
  refine Cal_enter (args := [v, .func (.func 21) #[] #[]]) Tryz.func49 rfl rfl rfl (fun σ => ?_)
  refine W_seq ?_
  refine W_region ?_
  refine L_yld (Y_assign rfl) rfl rfl rfl ?_
  refine L_nil ?_
  refine X_then ?_
  refine W_seq ?_
  refine W_seq ?_
  refine W_region ?_
  refine L_yld (Y_move rfl) rfl rfl rfl ?_
  refine L_yld (Y_len Tryz.underlying24 rfl hb) rfl rfl rfl ?_
  refine L_yld (Y_move rfl) rfl rfl rfl ?_
  refine L_nil ?_
  refine X_then ?_
  refine W_sub _ (.cons (i := 8) rfl (.cons (i := 7) rfl (.cons (i := 4) rfl (.cons (i := 0) rfl (.cons (i := 1) rfl (.nil _)))))) ?_
  refine W_block ?_
  refine W_loop (S := Nat) (fun i => [(7, .int .i64 ((l.length : Int))), (0, v), (1, .func (.func 21) #[] #[]), (8, .int .i64 ((i : Int)))]) (fun i h' => i ≤ l.length ∧ (∀ k, k < i → byt l k = 0) ∧ h' = h) (fun i => l.length - i) 0 (.cons (i := 7) rfl (.cons (i := 0) rfl (.cons (i := 1) rfl (.cons (i := 8) rfl (.nil _))))) ?_ ?_
  · exact ⟨Nat.zero_le _, (fun _ hk => absurd hk (Nat.not_lt_zero _)), rfl⟩
  rintro i h ⟨hi, hip, rfl⟩
  show W _ _ _ _ _ [(7, .int .i64 ((l.length : Int))), (0, v), (1, .func (.func 21) #[] #[]), (8, .int .i64 ((i : Int)))] _
  refine W_seq ?_
  refine W_region ?_
  refine L_yld (Y_lss rfl rfl) rfl rfl rfl ?_
  refine L_nil ?_
  refine X_then ?_
  refine W_seq ?_
  refine W_splitd rfl (fun hl2 => ?_) (fun hl2 => ?_)
  · refine W_skip ?_
    refine X_then ?_
    refine W_sub _ (.cons (i := 7) rfl (.cons (i := 0) rfl (.cons (i := 1) rfl (.cons (i := 8) rfl (.nil _))))) ?_
    refine W_seq ?_
    refine W_block ?_
    refine W_seq ?_
    refine W_region ?_
    refine L_yld (Y_move rfl) rfl rfl rfl ?_
    refine L_yld (Y_assign rfl) rfl rfl rfl ?_
    refine L_nil ?_
    refine X_then ?_
    refine W_sub _ (.cons (i := 5) rfl (.cons (i := 7) rfl (.cons (i := 0) rfl (.cons (i := 1) rfl (.cons (i := 8) rfl (.nil _)))))) ?_
    refine W_seq ?_
    refine W_region ?_
    refine L_yld (Y_move rfl) rfl rfl rfl ?_
    refine L_yld (Y_move rfl) rfl rfl rfl ?_
    refine L_yld (Y_move rfl) rfl rfl rfl ?_
    refine L_yld (Y_idx Tryz.underlying24 (show _ = some 1 by kernel_rfl) rfl rfl hb (by omega) (by omega)) rfl rfl rfl ?_
    refine L_yld (Y_ldbyte Tryz.underlying5 rfl rfl hb (by omega) (by omega)) rfl rfl rfl ?_
    refine L_call (E_callv (fs := []) (cs := []) (by kernel_rfl) rfl rfl) (isZero_nz _ (byt l ((i : Int)).toNat)) rfl rfl rfl ?_
    rintro _ h ⟨rfl, rfl⟩
    refine L_nil ?_
    refine X_then ?_
    refine W_sub _ (.cons (i := 16) rfl (.cons (i := 5) rfl (.cons (i := 7) rfl (.cons (i := 0) rfl (.cons (i := 1) rfl (.cons (i := 8) rfl (.nil _))))))) ?_
    refine W_splitd rfl (fun hne => ?_) (fun hne => ?_)
    · refine W_seq ?_
      refine W_region ?_
      refine L_yld (Y_move rfl) rfl rfl rfl ?_
      refine L_yld (Y_assign rfl) rfl rfl rfl ?_
      refine L_nil ?_
      refine X_then ?_
      refine W_sub _ (.cons (i := 4) rfl (.cons (i := 7) rfl (.cons (i := 0) rfl (.cons (i := 1) rfl (.cons (i := 8) rfl (.nil _)))))) ?_
      refine W_ret ?_
      refine X_block_ret ?_
      refine X_then_ret ?_
      refine X_then_ret ?_
      refine X_block_ret ?_
      refine X_then_ret ?_
      refine X_ret1 rfl rfl ?_
      rw [Int.toNat_natCast] at hne
      exact ⟨by rw [nzx_found (m := i) hip (by omega) hne], rfl⟩
    · refine W_skip ?_
      refine X_block ?_
      refine X_then ?_
      refine W_sub _ (.cons (i := 7) rfl (.cons (i := 0) rfl (.cons (i := 1) rfl (.cons (i := 8) rfl (.nil _))))) ?_
      refine W_region ?_
      refine L_yld (Y_add rfl rfl (by omega) (by omega)) rfl rfl rfl ?_
      refine L_yld (Y_move rfl) rfl rfl rfl ?_
      refine L_nil ?_
      refine X_loop (i + 1) (.cons (i := 7) rfl (.cons (i := 0) rfl (.cons (i := 1) rfl (.cons (i := 8) rfl (.nil _))))) ?_ ?_
      · exact ⟨by omega, (step_ne hip (by have h9 := Classical.not_not.1 hne; rw [Int.toNat_natCast] at h9; exact h9)), rfl⟩
      · (try dsimp only)
        omega
  · refine W_exit ?_
    refine X_then_exit ?_
    refine X_then_exit ?_
    refine X_block_hit ?_
    refine X_then ?_
    refine W_sub _ (.nil _) ?_
    refine W_seq ?_
    refine W_region ?_
    refine L_yld (Y_assign rfl) rfl rfl rfl ?_
    refine L_nil ?_
    refine X_then ?_
    refine W_ret ?_
    refine X_ret1 rfl rfl ?_
    have hi9 : i = l.length := by omega
    exact ⟨by rw [nzx_none (fun k hk => hip k (by omega))], rfl⟩
set_option maxRecDepth 100000 in
theorem slices_ContainsNz (h : Heap) (v : Value) (l : List UInt8) (hb : Bytes h v l) (hn : l.length ≤ 140737488355328) : Cal Tryz.prog 20 #[v, .func (.func 21) #[] #[]] h (fun v h' => v = .bool (decide (0 ≤ nzx l)) ∧ h' = h) := by
  refine Cal_enter (args := [v, .func (.func 21) #[] #[]]) Tryz.func20 rfl rfl rfl (fun σ => ?_)
  refine W_seq ?_
  refine W_region ?_
  refine L_yld (Y_assign rfl) rfl rfl rfl ?_
  refine L_nil ?_
  refine X_then ?_
  refine W_seq ?_
  refine W_region ?_
  refine L_yld (Y_move rfl) rfl rfl rfl ?_
  refine L_yld (Y_move rfl) rfl rfl rfl ?_
  refine L_call (E_call (by kernel_rfl) rfl) (slices_IndexNz _ v l hb (by first | omega | rfl | (simp <;> omega))) rfl rfl rfl ?_
  rintro _ h ⟨rfl, rfl⟩
  refine L_yld (Y_geq rfl rfl) rfl rfl rfl ?_
  refine L_yld (Y_assign rfl) rfl rfl rfl ?_
  refine L_nil ?_
  refine X_then ?_
  refine W_sub _ (.cons (i := 4) rfl (.nil _)) ?_
  refine W_ret ?_
  refine X_ret1 rfl rfl ?_
  exact ⟨rfl, rfl⟩
set_option maxRecDepth 100000 in
theorem entry_IsZero (h : Heap) (v : Value) (l : List UInt8) (hb : Bytes h v l) (hn : l.length ≤ 140737488355328) : Cal Tryz.prog 8 #[v] h (fun v h' => v = .bool (decide (¬ (0 ≤ nzx l))) ∧ h' = h) := by
  refine Cal_enter (args := [v]) Tryz.func8 rfl rfl rfl (fun σ => ?_)
  refine W_seq ?_
  refine W_region ?_
  refine L_yld (Y_assign rfl) rfl rfl rfl ?_
  refine L_nil ?_
  refine X_then ?_
  refine W_seq ?_
  refine W_region ?_
  refine L_yld (Y_move rfl) rfl rfl rfl ?_
  refine L_call (E_call (by kernel_rfl) rfl) (slices_ContainsNz _ v l hb (by first | omega | rfl | (simp <;> omega))) rfl rfl rfl ?_
  rintro _ h ⟨rfl, rfl⟩
  refine L_yld (Y_notd rfl) rfl rfl rfl ?_
  refine L_yld (Y_assign rfl) rfl rfl rfl ?_
  refine L_nil ?_
  refine X_then ?_
  refine W_sub _ (.cons (i := 2) rfl (.nil _)) ?_
  refine W_ret ?_
  refine X_ret1 rfl rfl ?_
  exact ⟨rfl, rfl⟩
set_option maxRecDepth 100000 in
theorem ref12_IsZero (h : Heap) (v : Value) (l : List UInt8) (hb : Bytes h v l) (hn : l.length ≤ 140737488355328) : Cal Tryz.prog 9 #[v] h (fun v h' => v = .bool (decide (¬ (0 ≤ nzx l))) ∧ h' = h) := by
  refine Cal_enter (args := [v]) Tryz.func9 rfl rfl rfl (fun σ => ?_)
  refine W_seq ?_
  refine W_region ?_
  refine L_yld (Y_assign rfl) rfl rfl rfl ?_
  refine L_nil ?_
  refine X_then ?_
  refine W_seq ?_
  refine W_seq ?_
  refine W_region ?_
  refine L_yld (Y_assign rfl) rfl rfl rfl ?_
  refine L_nil ?_
  refine X_then ?_
  refine W_block ?_
  refine W_loop (S := Nat) (fun i => [(0, v), (3, .int .i64 ((i : Int)))]) (fun i h' => i ≤ l.length ∧ (∀ k, k < i → byt l k = 0) ∧ h' = h) (fun i => l.length - i) 0 (.cons (i := 0) rfl (.cons (i := 3) rfl (.nil _))) ?_ ?_
  · exact ⟨Nat.zero_le _, (fun _ hk => absurd hk (Nat.not_lt_zero _)), rfl⟩
  rintro i h ⟨hi, hip, rfl⟩
  show W _ _ _ _ _ [(0, v), (3, .int .i64 ((i : Int)))] _
  refine W_seq ?_
  refine W_seq ?_
  refine W_region ?_
  refine L_yld (Y_move rfl) rfl rfl rfl ?_
  refine L_yld (Y_move rfl) rfl rfl rfl ?_
  refine L_yld (Y_len Tryz.underlying24 rfl hb) rfl rfl rfl ?_
  refine L_yld (Y_lss rfl rfl) rfl rfl rfl ?_
  refine L_nil ?_
  refine X_then ?_
  refine W_sub _ (.cons (i := 7) rfl (.cons (i := 0) rfl (.cons (i := 3) rfl (.nil _)))) ?_
  refine W_splitd rfl (fun hl2 => ?_) (fun hl2 => ?_)
  · refine W_skip ?_
    refine X_then ?_
    refine W_sub _ (.cons (i := 0) rfl (.cons (i := 3) rfl (.nil _))) ?_
    refine W_seq ?_
    refine W_block ?_
    refine W_seq ?_
    refine W_region ?_
    refine L_yld (Y_move rfl) rfl rfl rfl ?_
    refine L_yld (Y_move rfl) rfl rfl rfl ?_
    refine L_yld (Y_idx Tryz.underlying24 (show _ = some 1 by kernel_rfl) rfl rfl hb (by omega) (by omega)) rfl rfl rfl ?_
    refine L_yld (Y_ldbyte Tryz.underlying5 rfl rfl hb (by omega) (by omega)) rfl rfl rfl ?_
    refine L_yld (Y_neq rfl rfl) rfl rfl rfl ?_
    refine L_nil ?_
    refine X_then ?_
    refine W_sub _ (.cons (i := 14) rfl (.cons (i := 0) rfl (.cons (i := 3) rfl (.nil _)))) ?_
    refine W_splitd rfl (fun hne => ?_) (fun hne => ?_)
    · refine W_seq ?_
      refine W_region ?_
      refine L_yld (Y_assign rfl) rfl rfl rfl ?_
      refine L_nil ?_
      refine X_then ?_
      refine W_sub _ (.cons (i := 2) rfl (.cons (i := 0) rfl (.cons (i := 3) rfl (.nil _)))) ?_
      refine W_ret ?_
      refine X_block_ret ?_
      refine X_then_ret ?_
      refine X_then_ret ?_
      refine X_block_ret ?_
      refine X_then_ret ?_
      refine X_ret1 rfl rfl ?_
      rw [Int.toNat_natCast] at hne
      exact ⟨by rw [decide_eq_false (by rw [nzx_found (m := i) hip (by omega) hne]; omega)], rfl⟩
    · refine W_skip ?_
      refine X_block ?_
      refine X_then ?_
      refine W_sub _ (.cons (i := 0) rfl (.cons (i := 3) rfl (.nil _))) ?_
      refine W_region ?_
      refine L_yld (Y_move rfl) rfl rfl rfl ?_
      refine L_yld (Y_add rfl rfl (by omega) (by omega)) rfl rfl rfl ?_
      refine L_yld (Y_assign rfl) rfl rfl rfl ?_
      refine L_nil ?_
      refine X_loop (i + 1) (.cons (i := 0) rfl (.cons (i := 3) rfl (.nil _))) ?_ ?_
      · exact ⟨by omega, (step_ne hip (by have h9 := Classical.not_not.1 hne; rw [Int.toNat_natCast] at h9; exact h9)), rfl⟩
      · (try dsimp only)
        omega
  · refine W_exit ?_
    refine X_then_exit ?_
    refine X_then_exit ?_
    refine X_block_hit ?_
    refine X_then ?_
    refine W_sub _ (.nil _) ?_
    refine W_seq ?_
    refine W_region ?_
    refine L_yld (Y_assign rfl) rfl rfl rfl ?_
    refine L_nil ?_
    refine X_then ?_
    refine W_ret ?_
    refine X_ret1 rfl rfl ?_
    have hi9 : i = l.length := by omega
    exact ⟨by rw [decide_eq_true (by rw [nzx_none (fun k hk => hip k (by omega))]; decide)], rfl⟩
theorem fN_le (c : Int) (p : List UInt8) : (fN c p).length ≤ p.length ∧ (fP c p).length ≤ p.length := by
  have := split_lens p
  unfold fN fP; split
  · omega
  · simp
theorem fL_le (c : Int) (tg : List UInt8) : (fL c tg).length ≤ tg.length := by
  unfold fL; split
  · split <;> simp
  · simp
set_option maxRecDepth 100000 in
theorem ref12_Encode (h : Heap) (k : Int) (p : List UInt8) (m : Int) (tg : List UInt8) (z : Int) (hp : p.length ≤ 140737488355328) (ht : tg.length ≤ 140737488355328) (hz : -9223372036854775808 ≤ z ∧ z ≤ 9223372036854775807) : Cal Tryz.prog 7 #[.agg #[.int .i64 (k), str p, .int .i64 (m), str tg, .int .i64 (z)]] h (fun v h' => ∃ s0, v = .tuple #[s0, .int .i64 (fcheck k p m tg z)] ∧ Bytes h' s0 (eenc k p m tg z) ∧ Ext h h') := by
  refine Cal_enter (args := [.agg #[.int .i64 (k), str p, .int .i64 (m), str tg, .int .i64 (z)]]) Tryz.func7 rfl rfl rfl (fun σ => ?_)
  refine W_seq ?_
  refine W_region ?_
  refine L_mks (M_box rfl) rfl rfl rfl ?_
  rintro _ h1 ⟨rfl, hn1⟩
  have hk2 : Blk h1 h.size [.int .i64 (k), str p, .int .i64 (m), str tg, .int .i64 (z)] := hn1.blk
  refine L_yld (Y_assign rfl) rfl rfl rfl ?_
  refine L_yld (Y_assign rfl) rfl rfl rfl ?_
  refine L_nil ?_
  refine X_then ?_
  refine W_sub _ (.cons (i := 3) rfl (.cons (i := 2) rfl (.cons (i := 1) rfl (.nil _)))) ?_
  refine W_seq ?_
  refine W_region ?_
  refine L_yld (Y_ldbox (us := [.int .i64 (k), str p, .int .i64 (m), str tg, .int .i64 (z)]) Tryz.underlying23 rfl (show _ = some 5 by kernel_rfl) rfl hk2 rfl) rfl rfl rfl ?_
  refine L_call (E_call (by kernel_rfl) rfl) (ref10_Plan _ k p m tg z (by first | omega | rfl | (simp <;> omega)) (by first | omega | rfl | (simp <;> omega)) (by first | omega | rfl | (simp <;> omega))) rfl rfl rfl ?_
  rintro _ h2 ⟨s13, rfl, hr14, hx5⟩
  refine L_yld (Y_move rfl) rfl rfl rfl ?_
  refine L_yld (Y_extract (v := .agg #[.int .u8 (fT (fcheck k p m tg z) k), str (fN (fcheck k p m tg z) p), str (fP (fcheck k p m tg z) p), str (fL (fcheck k p m tg z) tg), .int .i64 (fM (fcheck k p m tg z) m), .int .i64 (fZ (fcheck k p m tg z) z)]) rfl rfl) rfl rfl rfl ?_
  refine L_yld (Y_extract (v := s13) rfl rfl) rfl rfl rfl ?_
  refine L_yld (Y_extract (v := .int .i64 (fcheck k p m tg z)) rfl rfl) rfl rfl rfl ?_
  refine L_mks (M_alloc (u := .agg #[.int .u8 0, str [], str [], str [], .int .i64 0, .int .i64 0]) (by kernel_rfl)) rfl rfl rfl ?_
  rintro _ h3 ⟨rfl, hn6⟩
  have hk7 : Blk h3 h2.size [.int .u8 0, str [], str [], str [], .int .i64 0, .int .i64 0] := hn6.blk
  refine L_dos (D_store (us := [.int .u8 (fT (fcheck k p m tg z) k), str (fN (fcheck k p m tg z) p), str (fP (fcheck k p m tg z) p), str (fL (fcheck k p m tg z) tg), .int .i64 (fM (fcheck k p m tg z) m), .int .i64 (fZ (fcheck k p m tg z) z)]) (show _ = some 6 by kernel_rfl) rfl rfl rfl (by simp [Value.oneCell']) hk7 (by simp)) rfl rfl ?_
  rintro h4 hp8
  have hk9 : Blk h4 h2.size [.int .u8 (fT (fcheck k p m tg z) k), str (fN (fcheck k p m tg z) p), str (fP (fcheck k p m tg z) p), str (fL (fcheck k p m tg z) tg), .int .i64 (fM (fcheck k p m tg z) m), .int .i64 (fZ (fcheck k p m tg z) z)] := hp8.blk
  refine L_yld (Y_assign rfl) rfl rfl rfl ?_
  refine L_yld (Y_assign rfl) rfl rfl rfl ?_
  refine L_nil ?_
  refine X_then ?_
  refine W_sub _ (.cons (i := 6) rfl (.cons (i := 5) rfl (.cons (i := 4) rfl (.cons (i := 3) rfl (.cons (i := 2) rfl (.nil _)))))) ?_
  refine W_seq ?_
  refine W_seq ?_
  refine W_region ?_
  refine L_yld (Y_move rfl) rfl rfl rfl ?_
  refine L_yld (Y_neq rfl rfl) rfl rfl rfl ?_
  refine L_nil ?_
  refine X_then ?_
  refine W_sub _ (.cons (i := 21) rfl (.cons (i := 6) rfl (.cons (i := 5) rfl (.cons (i := 4) rfl (.cons (i := 3) rfl (.cons (i := 2) rfl (.nil _))))))) ?_
  refine W_splitd rfl (fun e => ?_) (fun e => ?_)
  · refine W_seq ?_
    refine W_region ?_
    refine L_yld (Y_move rfl) rfl rfl rfl ?_
    refine L_yld (Y_assign rfl) rfl rfl rfl ?_
    refine L_yld (Y_assign rfl) rfl rfl rfl ?_
    refine L_nil ?_
    refine X_then ?_
    refine W_sub _ (.cons (i := 3) rfl (.cons (i := 2) rfl (.cons (i := 5) rfl (.cons (i := 4) rfl (.nil _))))) ?_
    refine W_ret ?_
    refine X_then_ret ?_
    refine X_ret2 rfl rfl rfl ?_
    refine ⟨_, rfl, ?_, (((hn1.ext.trans hx5).trans hn6.ext).then' hp8.only (by simp) (Nat.le_trans hn1.ext.size hx5.size))⟩
    rw [eenc_none e]
    exact Bytes.nil _
  · refine W_skip ?_
    refine X_then ?_
    refine W_sub _ (.cons (i := 5) rfl (.cons (i := 4) rfl (.cons (i := 3) rfl (.cons (i := 2) rfl (.nil _))))) ?_
    have e0 := Classical.not_not.1 e
    have hlens := fcheck_lens e0
    have hR3 := fR_len3 (fcheck k p m tg z) p tg z
    have hRg := fR_good e0 (by omega) (by omega)
    have hfT := fT_range (fcheck k p m tg z) k
    have hfZ := fZ_range e0
    have hfm := fcheck_mode e0
    have hfM : fM (fcheck k p m tg z) m = m := by rw [fM, if_pos e0]
    have hfN := fN_le (fcheck k p m tg z) p
    have hfL := fL_le (fcheck k p m tg z) tg
    have hu := uenc_len (ucheck_plan e0)
    have hrl := rfmt_le e0
    have hul := uenc_len (ext_ok hrl)
    have hpd := padn_lt (rfmt (fR (fcheck k p m tg z) p tg z)).length
    refine W_seq ?_
    refine W_region ?_
    refine L_yld (Y_assign rfl) rfl rfl rfl ?_
    refine L_nil ?_
    refine X_then ?_
    refine W_seq ?_
    refine W_seq ?_
    refine W_region ?_
    refine L_yld (Y_move rfl) rfl rfl rfl ?_
    refine L_yld (Y_lenr Tryz.underlying37 rfl (hr14.rows.ext (hn6.ext.then' hp8.only (by simp) (Nat.le_refl _)))) rfl rfl rfl ?_
    refine L_yld (Y_gtr rfl rfl) rfl rfl rfl ?_
    refine L_nil ?_
    refine X_then ?_
    refine W_sub _ (.cons (i := 25) rfl (.cons (i := 7) rfl (.cons (i := 5) rfl (.cons (i := 4) rfl (.cons (i := 3) rfl (.cons (i := 2) rfl (.nil _))))))) ?_
    refine W_splitd rfl (fun n => ?_) (fun n => ?_)
    · have hne : fR (fcheck k p m tg z) p tg z ≠ [] := fun h9 => by rw [h9] at n; simp at n
      refine W_seq ?_
      refine W_region ?_
      refine L_yld (Y_move rfl) rfl rfl rfl ?_
      refine L_call (E_call (by kernel_rfl) rfl) (ref09_Format _ s13 (fR (fcheck k p m tg z) p tg z) (hr14.rows.ext (hn6.ext.then' hp8.only (by simp) (Nat.le_refl _))) (by omega) hRg) rfl rfl rfl ?_
      rintro _ h5 ⟨s010, rfl, hr011, hx12⟩
      refine L_yld (Y_move rfl) rfl rfl rfl ?_
      refine L_yld (Y_extract (v := s010) rfl rfl) rfl rfl rfl ?_
      refine L_yld (Y_extract (v := .int .i64 (rlerr none (fR (fcheck k p m tg z) p tg z))) rfl rfl) rfl rfl rfl ?_
      refine L_yld (Y_assign rfl) rfl rfl rfl ?_
      refine L_yld (Y_assign rfl) rfl rfl rfl ?_
      refine L_nil ?_
      refine X_then ?_
      refine W_sub _ (.cons (i := 8) rfl (.cons (i := 7) rfl (.cons (i := 4) rfl (.cons (i := 3) rfl (.cons (i := 2) rfl (.nil _)))))) ?_
      refine W_seq ?_
      refine W_region ?_
      refine L_yld (Y_move rfl) rfl rfl rfl ?_
      refine L_yld (Y_len Tryz.underlying24 rfl hr011.bytes) rfl rfl rfl ?_
      refine L_yld (Y_build (v := .agg #[.int .u8 120, str [112, 97, 120], str [], str [], .int .i64 0, .int .i64 (((rfmt (fR (fcheck k p m tg z) p tg z)).length : Int))]) (pv := [(0, .int .u8 120), (1, str [112, 97, 120]), (5, .int .i64 (((rfmt (fR (fcheck k p m tg z) p tg z)).length : Int)))]) (evp (is := [0, 1, 5]) (os := [.const (.int .u8 120), .const (str [112, 97, 120]), .tmp 33]) (vs := [.int .u8 120, str [112, 97, 120], .int .i64 (((rfmt (fR (fcheck k p m tg z) p tg z)).length : Int))]) rfl rfl) (fun _ => by kernel_rfl)) rfl rfl rfl ?_
      refine L_call (E_call (by kernel_rfl) rfl) (ref07_Encode _ (120 : Int) [112, 97, 120] [] [] (0 : Int) ((rfmt (fR (fcheck k p m tg z) p tg z)).length : Int) (by first | omega | rfl | (simp <;> omega)) (by first | omega | rfl | (simp <;> omega)) (by first | omega | rfl | (simp <;> omega)) (by first | omega | rfl | (simp <;> omega)) (by first | omega | rfl | (simp <;> omega)) (by first | omega | rfl | (simp <;> omega))) rfl rfl rfl ?_
      rintro _ h6 ⟨s013, rfl, hr014, hx15⟩
      refine L_yld (Y_move rfl) rfl rfl rfl ?_
      refine L_yld (Y_extract (v := s013) rfl rfl) rfl rfl rfl ?_
      refine L_yld (Y_extract (v := .int .i64 (ucheck (120 : Int) [112, 97, 120] [] [] (0 : Int) ((rfmt (fR (fcheck k p m tg z) p tg z)).length : Int))) rfl rfl) rfl rfl rfl ?_
      refine L_yld (Y_assign rfl) rfl rfl rfl ?_
      refine L_yld (Y_assign rfl) rfl rfl rfl ?_
      refine L_nil ?_
      refine X_then ?_
      refine W_sub _ (.cons (i := 10) rfl (.cons (i := 8) rfl (.cons (i := 7) rfl (.cons (i := 4) rfl (.cons (i := 3) rfl (.cons (i := 2) rfl (.nil _))))))) ?_
      refine W_seq ?_
      refine W_region ?_
      refine L_yld (Y_move rfl) rfl rfl rfl ?_
      refine L_yld (Y_move rfl) rfl rfl rfl ?_
      refine L_mks (M_appb Tryz.underlying24 (by unfold elemRow; kernel_rfl) rfl rfl (OwnB.nil _ h6.size) hr014 (Nat.le_refl _) (by first | omega | (simp; omega))) rfl rfl rfl ?_
      rintro v16 h7 ha17
      refine L_yld (Y_assign rfl) rfl rfl rfl ?_
      refine L_nil ?_
      refine X_then ?_
      refine W_sub _ (.cons (i := 7) rfl (.cons (i := 8) rfl (.cons (i := 4) rfl (.cons (i := 3) rfl (.cons (i := 2) rfl (.nil _)))))) ?_
      refine W_seq ?_
      refine W_region ?_
      refine L_yld (Y_move rfl) rfl rfl rfl ?_
      refine L_yld (Y_move rfl) rfl rfl rfl ?_
      refine L_mks (M_appb Tryz.underlying24 (by unfold elemRow; kernel_rfl) rfl rfl ha17.own (hr011.bytes.ext (hx15.then' ha17.only ha17.ge hx15.size)) ha17.only.size (by first | omega | (simp; omega))) rfl rfl rfl ?_
      rintro v18 h8 ha19
      refine L_yld (Y_assign rfl) rfl rfl rfl ?_
      refine L_nil ?_
      refine X_then ?_
      refine W_sub _ (.cons (i := 7) rfl (.cons (i := 4) rfl (.cons (i := 3) rfl (.cons (i := 2) rfl (.nil _))))) ?_
      refine W_block ?_
      refine W_loop (S := Nat × Value) (fun (j, u) => [(4, .pointer (some ⟨h2.size, 0, none⟩)), (3, .int .i64 0), (2, .slice none 0 0), (7, u)]) (fun (j, u) h' => j ≤ padn (rfmt (fR (fcheck k p m tg z) p tg z)).length ∧ OwnB h' h6.size u (uenc 120 [112, 97, 120] [] [] 0 ((rfmt (fR (fcheck k p m tg z) p tg z)).length : Int) ++ rfmt (fR (fcheck k p m tg z) p tg z) ++ List.replicate j 0) ∧ Ext h6 h') (fun (j, u) => padn (rfmt (fR (fcheck k p m tg z) p tg z)).length - j) (0, v18) (.cons (i := 4) rfl (.cons (i := 3) rfl (.cons (i := 2) rfl (.cons (i := 7) rfl (.nil _))))) ?_ ?_
      · exact ⟨Nat.zero_le _, OwnB.congr ((ha19.own).low (Nat.le_refl _)) (by simp), (((Ext.refl _).then' ha17.only ha17.ge (Nat.le_refl _)).then' ha19.only ha19.ge (Nat.le_refl _))⟩
      rintro ⟨j, u⟩ h9 ⟨hj, ho, hxa⟩
      show W _ _ _ _ _ [(4, .pointer (some ⟨h2.size, 0, none⟩)), (3, .int .i64 0), (2, .slice none 0 0), (7, u)] _
      have hlX : (uenc 120 [112, 97, 120] [] [] 0 ((rfmt (fR (fcheck k p m tg z) p tg z)).length : Int) ++ rfmt (fR (fcheck k p m tg z) p tg z) ++ List.replicate j 0).length = 512 + (rfmt (fR (fcheck k p m tg z) p tg z)).length + j := by simp only [List.length_append, List.length_replicate, hul]
      refine W_seq ?_
      refine W_seq ?_
      refine W_region ?_
      refine L_yld (Y_move rfl) rfl rfl rfl ?_
      refine L_yld (Y_len Tryz.underlying24 rfl ho.bytes) rfl rfl rfl ?_
      refine L_yld (Y_rem rfl rfl (by omega) (by omega)) rfl rfl rfl ?_
      refine L_yld (Y_neq rfl rfl) rfl rfl rfl ?_
      refine L_nil ?_
      refine X_then ?_
      refine W_sub _ (.cons (i := 47) rfl (.cons (i := 4) rfl (.cons (i := 3) rfl (.cons (i := 2) rfl (.cons (i := 7) rfl (.nil _)))))) ?_
      refine W_splitd rfl (fun q => ?_) (fun q => ?_)
      · refine W_skip ?_
        refine X_then ?_
        refine W_sub _ (.cons (i := 4) rfl (.cons (i := 3) rfl (.cons (i := 2) rfl (.cons (i := 7) rfl (.nil _))))) ?_
        refine W_block ?_
        refine W_region ?_
        refine L_yld (Y_move rfl) rfl rfl rfl ?_
        refine L_mks (M_litb (l := [0]) (cells := [.int .u8 0]) (pv := [(0, .int .u8 0)]) (E := 5) (evp (is := [0]) (os := [.const (.int .u8 0)]) (vs := [.int .u8 0]) rfl rfl) rfl rfl (fun _ => by kernel_rfl)) rfl rfl rfl ?_
        rintro v20 h10 ⟨ho21, hx22⟩
        refine L_mks (M_appb Tryz.underlying24 (by unfold elemRow; kernel_rfl) rfl rfl (ho.ext hx22) ho21.bytes (Nat.le_trans hxa.size hx22.size) (by first | omega | (simp; omega))) rfl rfl rfl ?_
        rintro v23 h11 ha24
        refine L_yld (Y_assign rfl) rfl rfl rfl ?_
        refine L_nil ?_
        refine X_block ?_
        refine X_loop ((j + 1, v23)) (.cons (i := 4) rfl (.cons (i := 3) rfl (.cons (i := 2) rfl (.cons (i := 7) rfl (.nil _))))) ?_ ?_
        · exact ⟨by omega, OwnB.congr ((ha24.own).low (Nat.le_refl _)) (by simp [List.replicate_succ']), ((hxa.trans hx22).then' ha24.only ha24.ge (Nat.le_refl _))⟩
        · (try dsimp only)
          omega
      · refine W_exit ?_
        refine X_then_exit ?_
        refine X_then_exit ?_
        refine X_block_hit ?_
        refine X_then ?_
        refine W_sub _ (.cons (i := 4) rfl (.cons (i := 3) rfl (.cons (i := 2) rfl (.cons (i := 7) rfl (.nil _))))) ?_
        refine W_seq ?_
        refine W_region ?_
        refine L_yld (Y_ldbox (us := [.int .u8 (fT (fcheck k p m tg z) k), str (fN (fcheck k p m tg z) p), str (fP (fcheck k p m tg z) p), str (fL (fcheck k p m tg z) tg), .int .i64 (fM (fcheck k p m tg z) m), .int .i64 (fZ (fcheck k p m tg z) z)]) Tryz.underlying45 rfl (show _ = some 6 by kernel_rfl) rfl (hk9.ext ((hx12.trans hx15).trans hxa)) rfl) rfl rfl rfl ?_
        refine L_call (E_call (by kernel_rfl) rfl) (ref07_Encode _ (fT (fcheck k p m tg z) k) (fN (fcheck k p m tg z) p) (fP (fcheck k p m tg z) p) (fL (fcheck k p m tg z) tg) (fM (fcheck k p m tg z) m) (fZ (fcheck k p m tg z) z) (by first | omega | rfl | (simp <;> omega)) (by first | omega | rfl | (simp <;> omega)) (by first | omega | rfl | (simp <;> omega)) (by first | omega | rfl | (simp <;> omega)) (by first | omega | rfl | (simp <;> omega)) (by first | omega | rfl | (simp <;> omega))) rfl rfl rfl ?_
        rintro _ h12 ⟨s025, rfl, hr026, hx27⟩
        refine L_yld (Y_move rfl) rfl rfl rfl ?_
        refine L_yld (Y_extract (v := s025) rfl rfl) rfl rfl rfl ?_
        refine L_yld (Y_extract (v := .int .i64 (ucheck (fT (fcheck k p m tg z) k) (fN (fcheck k p m tg z) p) (fP (fcheck k p m tg z) p) (fL (fcheck k p m tg z) tg) (fM (fcheck k p m tg z) m) (fZ (fcheck k p m tg z) z))) rfl rfl) rfl rfl rfl ?_
        refine L_yld (Y_assign rfl) rfl rfl rfl ?_
        refine L_yld (Y_assign rfl) rfl rfl rfl ?_
        refine L_nil ?_
        refine X_then ?_
        refine W_sub _ (.cons (i := 12) rfl (.cons (i := 3) rfl (.cons (i := 2) rfl (.cons (i := 7) rfl (.nil _))))) ?_
        refine W_seq ?_
        refine W_region ?_
        refine L_yld (Y_move rfl) rfl rfl rfl ?_
        refine L_yld (Y_move rfl) rfl rfl rfl ?_
        refine L_mks (M_appb Tryz.underlying24 (by unfold elemRow; kernel_rfl) rfl rfl (ho.ext hx27) hr026 (Nat.le_trans hxa.size hx27.size) (by first | omega | (simp; omega))) rfl rfl rfl ?_
        rintro v28 h13 ha29
        refine L_yld (Y_assign rfl) rfl rfl rfl ?_
        refine L_yld (Y_assign rfl) rfl rfl rfl ?_
        refine L_nil ?_
        refine X_then ?_
        refine W_sub _ (.cons (i := 3) rfl (.cons (i := 2) rfl (.nil _))) ?_
        refine W_ret ?_
        refine X_ret2 rfl rfl rfl ?_
        obtain rfl : j = padn (rfmt (fR (fcheck k p m tg z) p tg z)).length := by omega
        refine ⟨_, by rw [e0], ?_, ((((((((hn1.ext.trans hx5).trans hn6.ext).then' hp8.only (by simp) (Nat.le_trans hn1.ext.size hx5.size)).trans hx12).trans hx15).trans hxa).trans hx27).then' ha29.only ha29.ge (Nat.le_trans (Nat.le_trans (Nat.le_trans (Nat.le_trans (Nat.le_trans hn1.ext.size hx5.size) hn6.ext.size) hp8.only.size) hx12.size) hx15.size))⟩
        have hE : eenc k p m tg z = uenc 120 [112, 97, 120] [] [] 0 ((rfmt (fR (fcheck k p m tg z) p tg z)).length : Int) ++ rfmt (fR (fcheck k p m tg z) p tg z) ++ List.replicate (padn (rfmt (fR (fcheck k p m tg z) p tg z)).length) 0 ++ uenc (fT (fcheck k p m tg z) k) (fN (fcheck k p m tg z) p) (fP (fcheck k p m tg z) p) (fL (fcheck k p m tg z) tg) (fM (fcheck k p m tg z) m) (fZ (fcheck k p m tg z) z) := by unfold eenc epre; rw [if_pos e0, if_neg hne]
        rw [hE]
        exact ha29.own.bytes
    · refine W_skip ?_
      refine X_then ?_
      refine W_sub _ (.cons (i := 7) rfl (.cons (i := 4) rfl (.cons (i := 3) rfl (.cons (i := 2) rfl (.nil _))))) ?_
      refine W_seq ?_
      refine W_region ?_
      refine L_yld (Y_ldbox (us := [.int .u8 (fT (fcheck k p m tg z) k), str (fN (fcheck k p m tg z) p), str (fP (fcheck k p m tg z) p), str (fL (fcheck k p m tg z) tg), .int .i64 (fM (fcheck k p m tg z) m), .int .i64 (fZ (fcheck k p m tg z) z)]) Tryz.underlying45 rfl (show _ = some 6 by kernel_rfl) rfl hk9 rfl) rfl rfl rfl ?_
      refine L_call (E_call (by kernel_rfl) rfl) (ref07_Encode _ (fT (fcheck k p m tg z) k) (fN (fcheck k p m tg z) p) (fP (fcheck k p m tg z) p) (fL (fcheck k p m tg z) tg) (fM (fcheck k p m tg z) m) (fZ (fcheck k p m tg z) z) (by first | omega | rfl | (simp <;> omega)) (by first | omega | rfl | (simp <;> omega)) (by first | omega | rfl | (simp <;> omega)) (by first | omega | rfl | (simp <;> omega)) (by first | omega | rfl | (simp <;> omega)) (by first | omega | rfl | (simp <;> omega))) rfl rfl rfl ?_
      rintro _ h14 ⟨s030, rfl, hr031, hx32⟩
      refine L_yld (Y_move rfl) rfl rfl rfl ?_
      refine L_yld (Y_extract (v := s030) rfl rfl) rfl rfl rfl ?_
      refine L_yld (Y_extract (v := .int .i64 (ucheck (fT (fcheck k p m tg z) k) (fN (fcheck k p m tg z) p) (fP (fcheck k p m tg z) p) (fL (fcheck k p m tg z) tg) (fM (fcheck k p m tg z) m) (fZ (fcheck k p m tg z) z))) rfl rfl) rfl rfl rfl ?_
      refine L_yld (Y_assign rfl) rfl rfl rfl ?_
      refine L_yld (Y_assign rfl) rfl rfl rfl ?_
      refine L_nil ?_
      refine X_then ?_
      refine W_sub _ (.cons (i := 12) rfl (.cons (i := 7) rfl (.cons (i := 3) rfl (.cons (i := 2) rfl (.nil _))))) ?_
      refine W_seq ?_
      refine W_region ?_
      refine L_yld (Y_move rfl) rfl rfl rfl ?_
      refine L_yld (Y_move rfl) rfl rfl rfl ?_
      refine L_mks (M_appb Tryz.underlying24 (by unfold elemRow; kernel_rfl) rfl rfl (OwnB.nil _ h14.size) hr031 (Nat.le_refl _) (by first | omega | (simp; omega))) rfl rfl rfl ?_
      rintro v33 h15 ha34
      refine L_yld (Y_assign rfl) rfl rfl rfl ?_
      refine L_yld (Y_assign rfl) rfl rfl rfl ?_
      refine L_nil ?_
      refine X_then ?_
      refine W_sub _ (.cons (i := 3) rfl (.cons (i := 2) rfl (.nil _))) ?_
      refine W_ret ?_
      refine X_ret2 rfl rfl rfl ?_
      refine ⟨_, by rw [e0], ?_, (((((hn1.ext.trans hx5).trans hn6.ext).then' hp8.only (by simp) (Nat.le_trans hn1.ext.size hx5.size)).trans hx32).then' ha34.only ha34.ge (Nat.le_trans (Nat.le_trans (Nat.le_trans (Nat.le_trans hn1.ext.size hx5.size) hn6.ext.size) hp8.only.size) hx32.size))⟩
      have hE : eenc k p m tg z = uenc (fT (fcheck k p m tg z) k) (fN (fcheck k p m tg z) p) (fP (fcheck k p m tg z) p) (fL (fcheck k p m tg z) tg) (fM (fcheck k p m tg z) m) (fZ (fcheck k p m tg z) z) := by unfold eenc epre; rw [if_pos e0, if_pos (List.eq_nil_of_length_eq_zero (by omega)), List.nil_append]
      rw [hE]
      exact ha34.own.bytes
set_option maxRecDepth 100000 in
theorem entryEncodeMatchesReference (h : Heap) (hG : Glb h) (hK : GlbK h) (hN : GlbN h) (hE : GlbE h) (hT : GlbT h) (k : Int) (p : List UInt8) (m : Int) (tg : List UInt8) (z : Int) (v : Value) (b : List UInt8) (hb : Bytes h v b) (hk : -9223372036854775808 ≤ k ∧ k ≤ 9223372036854775807) (hp : p.length ≤ 140737488355328) (hm : -9223372036854775808 ≤ m ∧ m ≤ 9223372036854775807) (ht : tg.length ≤ 140737488355328) (hz : -9223372036854775808 ≤ z ∧ z ≤ 9223372036854775807) (hbl : b.length ≤ 140737488355328) : Cal Tryz.prog 3 #[.agg #[.int .i64 (k), str p, .int .i64 (m), str tg, .int .i64 (z)], v] h (fun v h' => v = .bool true ∧ Ext h h') := by
  refine Cal_enter (args := [.agg #[.int .i64 (k), str p, .int .i64 (m), str tg, .int .i64 (z)], v]) Tryz.func3 rfl rfl rfl (fun σ => ?_)
  refine W_seq ?_
  refine W_region ?_
  refine L_mks (M_box rfl) rfl rfl rfl ?_
  rintro _ h1 ⟨rfl, hn1⟩
  have hk2 : Blk h1 h.size [.int .i64 (k), str p, .int .i64 (m), str tg, .int .i64 (z)] := hn1.blk
  refine L_yld (Y_assign rfl) rfl rfl rfl ?_
  refine L_nil ?_
  refine X_then ?_
  refine W_sub _ (.cons (i := 4) rfl (.cons (i := 2) rfl (.cons (i := 1) rfl (.nil _)))) ?_
  refine W_seq ?_
  refine W_cut (S := Unit) (fun _ => [(16, .bool (decide ((0 < (if 70000 < p.length + tg.length then 1 else 0 : Int)) ∨ (3000 < (b.length : Int))))), (4, .bool false), (2, .pointer (some ⟨h.size, 0, none⟩)), (1, v)]) (fun _ h' => Ext h1 h') ?_ ?_
  · refine W_region ?_
    refine L_yld (Y_ldbox (us := [.int .i64 (k), str p, .int .i64 (m), str tg, .int .i64 (z)]) Tryz.underlying23 rfl (show _ = some 5 by kernel_rfl) rfl hk2 rfl) rfl rfl rfl ?_
    refine L_call (E_call (by kernel_rfl) rfl) (law10_TooLarge _ k p m tg z (by first | omega | rfl | (simp <;> omega)) (by first | omega | rfl | (simp <;> omega))) rfl rfl rfl ?_
    rintro _ h2 ⟨rfl, hx3⟩
    refine L_yld (Y_gtr rfl rfl) rfl rfl rfl ?_
    refine L_yld (Y_move rfl) rfl rfl rfl ?_
    refine L_splitd (d := 12) rfl (fun c4 => ?_) (fun c4 => ?_)
    · refine L_skip rfl rfl rfl ?_
      refine L_skip rfl rfl rfl ?_
      refine L_skip rfl rfl rfl ?_
      refine L_yld (Y_pick_t rfl rfl) rfl rfl rfl ?_
      refine L_nil ?_
      exact X_cut () (.cons (i := 16) (lkb rfl (by simp only [eq_true c4, true_and, and_true, false_and, and_false, true_or, or_true, false_or, or_false, not_true_eq_false, not_false_eq_true, decide_true, decide_false, Bool.true_eq_false, Bool.false_eq_true, eq_self, Bool.decide_eq_true])) (.cons (i := 4) rfl (.cons (i := 2) rfl (.cons (i := 1) rfl (.nil _))))) hx3
    · refine L_yld (Y_move rfl) rfl rfl rfl ?_
      refine L_yld (Y_len Tryz.underlying24 rfl (hb.ext (hn1.ext.trans hx3))) rfl rfl rfl ?_
      refine L_yld (Y_gtr rfl rfl) rfl rfl rfl ?_
      refine L_yld (Y_pick_f rfl rfl) rfl rfl rfl ?_
      refine L_nil ?_
      exact X_cut () (.cons (i := 16) (lkb rfl (by simp only [eq_false c4, true_and, and_true, false_and, and_false, true_or, or_true, false_or, or_false, not_true_eq_false, not_false_eq_true, decide_true, decide_false, Bool.true_eq_false, Bool.false_eq_true, eq_self, Bool.decide_eq_true])) (.cons (i := 4) rfl (.cons (i := 2) rfl (.cons (i := 1) rfl (.nil _))))) hx3
  rintro _ h3 hx5
  show W _ _ _ _ _ [(16, .bool (decide ((0 < (if 70000 < p.length + tg.length then 1 else 0 : Int)) ∨ (3000 < (b.length : Int))))), (4, .bool false), (2, .pointer (some ⟨h.size, 0, none⟩)), (1, v)] _
  refine W_splitd rfl (fun g => ?_) (fun g => ?_)
  · refine W_seq ?_
    refine W_region ?_
    refine L_call (E_call (by kernel_rfl) rfl) (law12_alive _ (hG.ext (hn1.ext.trans hx5)) (hK.ext (hn1.ext.trans hx5)) (hN.ext (hn1.ext.trans hx5)) (hE.ext (hn1.ext.trans hx5)) (hT.ext (hn1.ext.trans hx5))) rfl rfl rfl ?_
    rintro _ h4 ⟨rfl, hx6⟩
    refine L_yld (Y_assign rfl) rfl rfl rfl ?_
    refine L_nil ?_
    refine X_then ?_
    refine W_sub _ (.cons (i := 4) rfl (.cons (i := 2) rfl (.cons (i := 1) rfl (.nil _)))) ?_
    refine W_ret ?_
    refine X_then_ret ?_
    refine X_ret1 rfl rfl ?_
    exact ⟨rfl, ((hn1.ext.trans hx5).trans hx6)⟩
  · refine W_skip ?_
    refine X_then ?_
    refine W_sub _ (.cons (i := 4) rfl (.cons (i := 2) rfl (.cons (i := 1) rfl (.nil _)))) ?_
    refine W_seq ?_
    refine W_region ?_
    refine L_yld (Y_ldbox (us := [.int .i64 (k), str p, .int .i64 (m), str tg, .int .i64 (z)]) Tryz.underlying23 rfl (show _ = some 5 by kernel_rfl) rfl (hk2.ext hx5) rfl) rfl rfl rfl ?_
    refine L_call (E_call (by kernel_rfl) rfl) (entry_Encode _ (hG.ext (hn1.ext.trans hx5)) (hK.ext (hn1.ext.trans hx5)) (hN.ext (hn1.ext.trans hx5)) (hE.ext (hn1.ext.trans hx5)) (hT.ext (hn1.ext.trans hx5)) k p m tg z (by first | omega | rfl | (simp <;> omega)) (by first | omega | rfl | (simp <;> omega)) (by first | omega | rfl | (simp <;> omega))) rfl rfl rfl ?_
    rintro _ h5 ⟨s07, rfl, hr08, hx9⟩
    refine L_yld (Y_move rfl) rfl rfl rfl ?_
    refine L_yld (Y_extract (v := s07) rfl rfl) rfl rfl rfl ?_
    refine L_yld (Y_extract (v := .int .i64 (fcheck k p m tg z)) rfl rfl) rfl rfl rfl ?_
    refine L_yld (Y_assign rfl) rfl rfl rfl ?_
    refine L_yld (Y_assign rfl) rfl rfl rfl ?_
    refine L_nil ?_
    refine X_then ?_
    refine W_sub _ (.cons (i := 6) rfl (.cons (i := 5) rfl (.cons (i := 4) rfl (.cons (i := 2) rfl (.cons (i := 1) rfl (.nil _)))))) ?_
    refine W_seq ?_
    refine W_region ?_
    refine L_yld (Y_ldbox (us := [.int .i64 (k), str p, .int .i64 (m), str tg, .int .i64 (z)]) Tryz.underlying23 rfl (show _ = some 5 by kernel_rfl) rfl (hk2.ext (hx5.trans hx9)) rfl) rfl rfl rfl ?_
    refine L_call (E_call (by kernel_rfl) rfl) (ref12_Encode _ k p m tg z (by first | omega | rfl | (simp <;> omega)) (by first | omega | rfl | (simp <;> omega)) (by first | omega | rfl | (simp <;> omega))) rfl rfl rfl ?_
    rintro _ h6 ⟨s010, rfl, hr011, hx12⟩
    refine L_yld (Y_move rfl) rfl rfl rfl ?_
    refine L_yld (Y_extract (v := s010) rfl rfl) rfl rfl rfl ?_
    refine L_yld (Y_extract (v := .int .i64 (fcheck k p m tg z)) rfl rfl) rfl rfl rfl ?_
    refine L_yld (Y_assign rfl) rfl rfl rfl ?_
    refine L_yld (Y_assign rfl) rfl rfl rfl ?_
    refine L_nil ?_
    refine X_then ?_
    refine W_sub _ (.cons (i := 8) rfl (.cons (i := 7) rfl (.cons (i := 6) rfl (.cons (i := 5) rfl (.cons (i := 4) rfl (.cons (i := 1) rfl (.nil _))))))) ?_
    refine W_seq ?_
    refine W_region ?_
    refine L_call (E_call (by kernel_rfl) rfl) (law12_alive _ (hG.ext (((hn1.ext.trans hx5).trans hx9).trans hx12)) (hK.ext (((hn1.ext.trans hx5).trans hx9).trans hx12)) (hN.ext (((hn1.ext.trans hx5).trans hx9).trans hx12)) (hE.ext (((hn1.ext.trans hx5).trans hx9).trans hx12)) (hT.ext (((hn1.ext.trans hx5).trans hx9).trans hx12))) rfl rfl rfl ?_
    rintro _ h7 ⟨rfl, hx13⟩
    refine L_yld (Y_move rfl) rfl rfl rfl ?_
    refine L_yld (Y_move rfl) rfl rfl rfl ?_
    refine L_yld (Y_bytes_str Tryz.underlying24 Tryz.underlying5 Tryz.underlying9 rfl (hr08.ext (hx12.trans hx13))) rfl rfl rfl ?_
    refine L_yld (Y_move rfl) rfl rfl rfl ?_
    refine L_yld (Y_bytes_str Tryz.underlying24 Tryz.underlying5 Tryz.underlying9 rfl (hr011.ext hx13)) rfl rfl rfl ?_
    refine L_yld (Y_seql rfl rfl) rfl rfl rfl ?_
    refine L_yld (Y_pick_t rfl rfl) rfl rfl rfl ?_
    refine L_yld (Y_move rfl) rfl rfl rfl ?_
    refine L_known (d := 36) true rfl (by exact decide_eq_true (by rfl)) ?_
    refine L_yld (Y_move rfl) rfl rfl rfl ?_
    refine L_yld (Y_move rfl) rfl rfl rfl ?_
    refine L_yld (Y_eql rfl rfl) rfl rfl rfl ?_
    refine L_yld (Y_pick_t rfl rfl) rfl rfl rfl ?_
    refine L_yld (Y_move rfl) rfl rfl rfl ?_
    refine L_known (d := 41) true rfl (by exact decide_eq_true (by rfl)) ?_
    refine L_yld (Y_move rfl) rfl rfl rfl ?_
    refine L_call (E_call (by kernel_rfl) rfl) (entry_IsZero _ v b (hb.ext ((((hn1.ext.trans hx5).trans hx9).trans hx12).trans hx13)) (by first | omega | rfl | (simp <;> omega))) rfl rfl rfl ?_
    rintro _ h7 ⟨rfl, rfl⟩
    refine L_yld (Y_move rfl) rfl rfl rfl ?_
    refine L_call (E_call (by kernel_rfl) rfl) (ref12_IsZero _ v b (hb.ext ((((hn1.ext.trans hx5).trans hx9).trans hx12).trans hx13)) (by first | omega | rfl | (simp <;> omega))) rfl rfl rfl ?_
    rintro _ h7 ⟨rfl, rfl⟩
    refine L_yld (Y_beql Tryz.underlying4 rfl rfl) rfl rfl rfl ?_
    refine L_yld (Y_pick_t rfl rfl) rfl rfl rfl ?_
    refine L_yld (Y_assign rfl) rfl rfl rfl ?_
    refine L_nil ?_
    refine X_then ?_
    refine W_sub _ (.cons (i := 4) rfl (.nil _)) ?_
    refine W_ret ?_
    refine X_ret1 rfl rfl ?_
    exact ⟨by simp, ((((hn1.ext.trans hx5).trans hx9).trans hx12).trans hx13)⟩
end Go.Xp
