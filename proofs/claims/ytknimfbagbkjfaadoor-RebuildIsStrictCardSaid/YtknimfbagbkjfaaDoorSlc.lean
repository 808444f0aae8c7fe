/- The functions of Go's library that look for one byte: strings and bytes. -/
import Derived.Test.YtknimfbagbkjfaaDoorGlb
import Derived.Test.YtknimfbagbkjfaaDoorProg
import Derived.KernelRfl
import Derived.Test.YtknimfbagbkjfaaDoorShelf
import Derived.Below
set_option linter.unusedSimpArgs false
set_option linter.unusedVariables false
namespace Go.Xp
open Go.Proofs

theorem ext_IndexByteString {h : Heap} (l : List UInt8) (c : Int) (w : World) (_hw : w.heap = h) : (callFunc 77 #[str l, .int .u8 c]).run Tryd.prog w = .ok (.value (.int .i64 (Lib.indexByte l c.toNat.toUInt8))) w := by
  rw [run_callFunc_extern Tryd.func77 (by kernel_rfl) (by kernel_rfl) (by kernel_rfl) (e := Extern.BytealgIndexByte.indexByte) (by kernel_rfl), Lib.run_indexByteString]
  rfl
set_option maxRecDepth 100000 in
theorem lite_IndexByte (h : Heap) (l : List UInt8) (c : Int) : Cal Tryd.prog 70 #[str l, .int .u8 (c)] h (fun v h' => v = .int .i64 (Lib.indexByte l c.toNat.toUInt8) ∧ h' = h) := by
 refine Cal_enter (args := [str l, .int .u8 (c)]) Tryd.func70 rfl rfl rfl (fun σ => ?_)
 refine Wr ?_
 refine Av ?_
 refine L_nil (X_then (W_seq (W_region ?_)))
 refine Mv ?_
 refine Mv ?_
 refine Ly (Y_ext rfl (fun w_ h_ => ext_IndexByteString l c w_ h_)) ?_
 refine Av ?_
 refine Nx ?_
 refine W_sub _ (tk1 4) ?_
 refine W_ret ?_
 refine X_ret1 rfl rfl ?_
 exact ⟨rfl, rfl⟩

set_option maxRecDepth 100000 in
theorem strings_IndexByte (h : Heap) (l : List UInt8) (c : Int) : Cal Tryd.prog 61 #[str l, .int .u8 (c)] h (fun v h' => v = .int .i64 (Lib.indexByte l c.toNat.toUInt8) ∧ h' = h) := by
 refine Cal_enter (args := [str l, .int .u8 (c)]) Tryd.func61 rfl rfl rfl (fun σ => ?_)
 refine Wr ?_
 refine Av ?_
 refine L_nil (X_then (W_seq (W_region ?_)))
 refine Mv ?_
 refine Mv ?_
 refine L_call (E_call (by kernel_rfl) rfl) (lite_IndexByte _ l c) rfl rfl rfl ?_
 rintro _ h ⟨rfl, rfl⟩
 refine Av ?_
 refine Nx ?_
 refine W_sub _ (tk1 4) ?_
 refine W_ret ?_
 refine X_ret1 rfl rfl ?_
 exact ⟨rfl, rfl⟩

theorem byt_back (l : List UInt8) (k : Nat) : (byt l k).toNat.toUInt8 = l.getD k 0 := by simp [byt]
theorem indexByte_lt (l : List UInt8) (c : UInt8) : Lib.indexByte l c < l.length := by
  induction l with
  | nil => simp [Lib.indexByte]
  | cons a l ih =>
    simp only [Lib.indexByte, List.length_cons]
    split
    · omega
    · split <;> omega

/-! ### One byte looked for -/
set_option maxRecDepth 100000 in
theorem lite_Index (h : Heap) (l : List UInt8) (u : List UInt8) (hu : u.length = 1) : Cal Tryd.prog 81 #[str l, str u] h (fun v h' => v = .int .i64 (Lib.indexByte l (u.getD 0 0)) ∧ h' = h) := by
 refine Cal_enter (args := [str l, str u]) Tryd.func81 rfl rfl rfl (fun σ => ?_)
 refine Wr ?_
 refine Av ?_
 refine L_nil (X_then (W_seq (W_region ?_)))
 refine Mv ?_
 refine Ly (Y_slen Tryd.underlying9 rfl) ?_
 refine Av ?_
 refine Nx ?_
 refine W_sub _ (tk4 5 4 0 1) ?_
 refine W_seq (W_block (W_seq (W_region ?_)))
 refine Mv ?_
 refine Ly (Y_eql rfl rfl) ?_
 refine Mv ?_
 refine L_known (d := 19) false rfl (by exact decide_eq_false (by omega)) ?_
 refine Mv ?_
 refine Mv ?_
 refine Ly (Y_seql rfl rfl) ?_
 refine Ly (Y_pick_f rfl rfl) ?_
 refine Av ?_
 refine Nx ?_
 refine W_sub _ (tk5 16 5 4 0 1) ?_
 refine W_splitd rfl (fun g => ?_) (fun g => ?_)
 ·refine Wr ?_
  refine Av ?_
  refine Nx ?_
  refine W_sub _ (tk4 4 5 0 1) ?_
  refine W_ret (X_block_ret (X_then_ret ?_))
  refine X_ret1 rfl rfl ?_
  refine ⟨?_, rfl⟩
  subst g
  obtain ⟨c, rfl⟩ := List.length_eq_one_iff.1 hu
  simp [Lib.indexByte]
 refine Wr ?_
 refine Mv ?_
 refine Ly (Y_eql rfl rfl) ?_
 refine Av ?_
 refine Nx ?_
 refine W_sub _ (tk5 24 5 4 0 1) ?_
 refine W_known true rfl (by exact decide_eq_true (by omega)) ?_
 refine Wr ?_
 refine Mv ?_
 refine Mv ?_
 refine Ly (Y_sidx Tryd.underlying9 rfl rfl (by omega) (by omega)) ?_
 refine L_call (E_call (by kernel_rfl) rfl) (lite_IndexByte _ l (byt u 0)) rfl rfl rfl ?_
 rintro _ h ⟨rfl, rfl⟩
 refine Av ?_
 refine Nx ?_
 refine W_sub _ (tk4 4 5 0 1) ?_
 refine W_ret (X_block_ret (X_then_ret ?_))
 refine X_ret1 rfl rfl ?_
 exact ⟨by rw [byt_back], rfl⟩

/-- What Cut at one byte gives: the part ahead, the part behind, found. -/
def cutA (l : List UInt8) (c : UInt8) : List UInt8 := if 0 ≤ Lib.indexByte l c then l.take (Lib.indexByte l c).toNat else l
def cutB (l : List UInt8) (c : UInt8) : List UInt8 := if 0 ≤ Lib.indexByte l c then l.drop (Lib.indexByte l c + 1).toNat else []

set_option maxRecDepth 100000 in
theorem lite_Cut (h : Heap) (l : List UInt8) (u : List UInt8) (hu : u.length = 1) (hl : l.length ≤ 9223372036854775807) : Cal Tryd.prog 76 #[str l, str u] h (fun v h' => v = .tuple #[str (cutA l (u.getD 0 0)), str (cutB l (u.getD 0 0)), .bool (decide (0 ≤ Lib.indexByte l (u.getD 0 0)))] ∧ h' = h) := by
 have hi := indexByte_lt l (u.getD 0 0)
 refine Cal_enter (args := [str l, str u]) Tryd.func76 rfl rfl rfl (fun σ => ?_)
 refine Wr ?_
 refine Av ?_
 refine Av ?_
 refine Av ?_
 refine L_nil (X_then (W_seq (W_seq (W_region ?_))))
 refine Mv ?_
 refine Mv ?_
 refine L_call (E_call (by kernel_rfl) rfl) (lite_Index _ l u (by first | omega | rfl | (simp <;> omega))) rfl rfl rfl ?_
 rintro _ h ⟨rfl, rfl⟩
 refine Av ?_
 refine Nx ?_
 refine W_sub _ (tk6 7 6 5 4 0 1) ?_
 refine Wr ?_
 refine Mv ?_
 refine Ly (Y_geq rfl rfl) ?_
 refine Nx ?_
 refine W_sub _ (tk7 12 7 6 5 4 0 1) ?_
 refine W_splitd rfl (fun g => ?_) (fun g => ?_)
 ·refine W_seq ?_
  refine W_quiet (fun h' => h' = h) (by kernel_rfl) (by kernel_rfl) rfl ?_
  refine LQ_yld (fun h_ hI_ => by subst hI_; exact Y_move rfl) rfl rfl rfl ?_
  refine LQ_yld (fun h_ hI_ => by subst hI_; exact Y_move rfl) rfl rfl rfl ?_
  refine LQ_yld (fun h_ hI_ => by subst hI_; exact Y_sslice_h Tryd.underlying9 rfl rfl (by omega) (by omega)) rfl rfl rfl ?_
  refine LQ_yld (fun h_ hI_ => by subst hI_; exact Y_move rfl) rfl rfl rfl ?_
  refine LQ_yld (fun h_ hI_ => by subst hI_; exact Y_move rfl) rfl rfl rfl ?_
  refine LQ_yld (fun h_ hI_ => by subst hI_; exact Y_move rfl) rfl rfl rfl ?_
  refine LQ_yld (fun h_ hI_ => by subst hI_; exact Y_slen Tryd.underlying9 rfl) rfl rfl rfl ?_
  refine LQ_yld (fun h_ hI_ => by subst hI_; exact Y_add rfl rfl (by omega) (by omega)) rfl rfl rfl ?_
  refine LQ_yld (fun h_ hI_ => by subst hI_; exact Y_sslice_l Tryd.underlying9 rfl rfl (by omega) (by omega)) rfl rfl rfl ?_
  refine LQ_yld (fun h_ hI_ => by subst hI_; exact Y_assign rfl) rfl rfl rfl ?_
  refine LQ_yld (fun h_ hI_ => by subst hI_; exact Y_assign rfl) rfl rfl rfl ?_
  refine LQ_yld (fun h_ hI_ => by subst hI_; exact Y_assign rfl) rfl rfl rfl ?_
  refine LQ_nil ?_
  rintro h rfl
  refine X_then ?_
  refine W_sub _ (tk4 6 5 4 0) ?_
  refine W_ret (X_then_ret ?_)
  refine X_ret3 rfl rfl rfl rfl ?_
  exact ⟨by simp only [cutA, cutB, if_pos g, decide_eq_true g, hu]; rfl, rfl⟩
 refine Ws ?_
 refine W_sub _ (tk4 6 5 4 0) ?_
 refine Wr ?_
 refine Mv ?_
 refine Av ?_
 refine Av ?_
 refine Av ?_
 refine Nx ?_
 refine W_sub _ (tk3 6 5 4) ?_
 refine W_ret ?_
 refine X_ret3 rfl rfl rfl rfl ?_
 exact ⟨by simp only [cutA, cutB, if_neg g, decide_eq_false g], rfl⟩

set_option maxRecDepth 100000 in
theorem strings_Cut (h : Heap) (l : List UInt8) (u : List UInt8) (hu : u.length = 1) (hl : l.length ≤ 9223372036854775807) : Cal Tryd.prog 69 #[str l, str u] h (fun v h' => v = .tuple #[str (cutA l (u.getD 0 0)), str (cutB l (u.getD 0 0)), .bool (decide (0 ≤ Lib.indexByte l (u.getD 0 0)))] ∧ h' = h) := by
 refine Cal_enter (args := [str l, str u]) Tryd.func69 rfl rfl rfl (fun σ => ?_)
 refine Wr ?_
 refine Av ?_
 refine Av ?_
 refine Av ?_
 refine L_nil (X_then (W_seq (W_region ?_)))
 refine Mv ?_
 refine Mv ?_
 refine L_call (E_call (by kernel_rfl) rfl) (lite_Cut _ l u (by first | omega | rfl | (simp <;> omega)) (by first | omega | rfl | (simp <;> omega))) rfl rfl rfl ?_
 rintro _ h ⟨rfl, rfl⟩
 refine Ly (Y_extract (v := str (cutA l (u.getD 0 0))) rfl rfl) ?_
 refine Ly (Y_extract (v := str (cutB l (u.getD 0 0))) rfl rfl) ?_
 refine Ly (Y_extract (v := .bool (decide (0 ≤ Lib.indexByte l (u.getD 0 0)))) rfl rfl) ?_
 refine Av ?_
 refine Av ?_
 refine Av ?_
 refine Nx ?_
 refine W_sub _ (tk3 6 5 4) ?_
 refine W_ret ?_
 refine X_ret3 rfl rfl rfl rfl ?_
 exact ⟨rfl, rfl⟩

end Go.Xp

/- Layer 2 (cstring): the walks of the program's functions and of its reference. -/
set_option linter.unusedSimpArgs false
set_option linter.unusedVariables false
namespace Go.Xp
open Go.Proofs

/-! ### Bytes -/
theorem step_ne {P : Nat → Prop} {i : Nat} (h : ∀ k, k < i → P k) (hi : P i) : ∀ k, k < i + 1 → P k := fun k hk => by
  rcases Nat.lt_succ_iff_lt_or_eq.1 hk with h1 | rfl
  · exact h k h1
  · exact hi
theorem indexByte_mem (l : List UInt8) (c : UInt8) : (0 ≤ Lib.indexByte l c) ↔ c ∈ l := by
  induction l with
  | nil => simp [Lib.indexByte]
  | cons a l ih =>
    simp only [Lib.indexByte, List.mem_cons]
    by_cases h : a = c
    · subst h; simp
    · have h2 : (a == c) = false := by simpa using h
      have h3 : ¬ c = a := fun h' => h h'.symm
      have := Lib.indexByte_ge l c
      rw [h2]
      simp only [Bool.false_eq_true, if_false, h3, false_or]
      rw [← ih]
      by_cases h1 : Lib.indexByte l c = -1
      · rw [h1]; simp
      · have h4 : (Lib.indexByte l c == -1) = false := by simpa using h1
        rw [h4]; simp only [Bool.false_eq_true, if_false]; omega

/-! ### What the layer answers -/
/-! ### Parse -/
end Go.Xp

/- strings.Repeat, by the shelf's contract. -/
set_option linter.unusedSimpArgs false
set_option linter.unusedVariables false
namespace Go.Xp
open Go.Proofs Go.RowKit

end Go.Xp

/- Layer 2 (cstring): the laws' own text. -/
set_option linter.unusedSimpArgs false
set_option linter.unusedVariables false
namespace Go.Xp
open Go.Proofs

end Go.Xp

/- Library functions on slices of bytes: slices.Clone, slices.Equal. -/
set_option linter.unusedSimpArgs false
set_option linter.unusedVariables false
namespace Go.Xp
open Go.Proofs

set_option maxRecDepth 100000 in
theorem slices_CloneB (h : Heap) (v : Value) (b : List UInt8) (hb : Bytes h v b) (hl : b.length ≤ 140737488355328) : Cal Tryd.prog 30 #[v] h (fun v h' => ∃ s0, v = s0 ∧ OwnB h' h.size s0 (b) ∧ Ext h h') := by
 refine Cal_enter (args := [v]) Tryd.func30 rfl rfl rfl (fun σ => ?_)
 refine Wr ?_
 refine Av ?_
 refine L_nil (X_then (W_seq (W_seq (W_region ?_))))
 refine Mv ?_
 refine Ly (Y_slnil Tryd.underlying28 rfl hb) ?_
 refine Nx ?_
 refine W_sub _ (tk3 4 2 0) ?_
 refine W_split rfl (fun c => ?_) (fun c => ?_)
 ·refine Wr ?_
  refine Av ?_
  refine Nx ?_
  refine W_sub _ (tk2 2 0) ?_
  refine W_ret (X_then_ret ?_)
  refine X_ret1 rfl rfl ?_
  exact ⟨_, rfl, by rw [isNil_nil hb c]; exact OwnB.nil _ _, (Ext.refl _)⟩
 refine Ws ?_
 refine W_sub _ (tk2 2 0) ?_
 refine Wr ?_
 refine L_mks (M_litb (l := ([] : List UInt8)) (cells := []) (pv := []) (E := 5) (evp (is := []) (os := []) (vs := []) rfl rfl) rfl rfl (fun _ => by kernel_rfl)) rfl rfl rfl ?_
 rintro v1 h1 ⟨ho2, hx3⟩
 refine Mv ?_
 refine L_mks (M_appb Tryd.underlying28 (by unfold elemRow; kernel_rfl) rfl rfl ho2 (hb.ext hx3) hx3.size (by first | omega | (simp; omega))) rfl rfl rfl ?_
 rintro v4 h2 ha5
 refine Av ?_
 refine Nx ?_
 refine W_sub _ (tk1 2) ?_
 refine W_ret ?_
 refine X_ret1 rfl rfl ?_
 exact ⟨_, rfl, (by simpa using (ha5.own).low (Nat.le_refl _)), (hx3.then' ha5.only ha5.ge (Nat.le_refl _))⟩

theorem byt_extS {a b : List UInt8} (hl : a.length = b.length) (h : ∀ k, k < a.length → byt a k = byt b k) : a = b := by
  apply List.ext_getElem hl
  intro i h1 h2
  have := h i h1
  rw [byt_eq h1, byt_eq h2] at this
  exact UInt8.toNat_inj.1 (by omega)

set_option maxRecDepth 100000 in
theorem slices_EqualB (h : Heap) (v : Value) (a : List UInt8) (ha : Bytes h v a) (u : Value) (b : List UInt8) (hb : Bytes h u b) (hl0 : a.length ≤ 140737488355328) : Cal Tryd.prog 45 #[v, u] h (fun v h' => v = .bool (decide (a = b)) ∧ h' = h) := by
 refine Cal_enter (args := [v, u]) Tryd.func45 rfl rfl rfl (fun σ => ?_)
 refine Wr ?_
 refine Av ?_
 refine L_nil (X_then (W_seq (W_seq (W_region ?_))))
 refine Mv ?_
 refine Ly (Y_len Tryd.underlying28 rfl ha) ?_
 refine Mv ?_
 refine Ly (Y_len Tryd.underlying28 rfl hb) ?_
 refine Ly (Y_neq rfl rfl) ?_
 refine Nx ?_
 refine W_sub _ (tk4 10 4 0 1) ?_
 refine W_splitd rfl (fun c => ?_) (fun c => ?_)
 ·refine Wr ?_
  refine Av ?_
  refine Nx ?_
  refine W_sub _ (tk3 4 0 1) ?_
  refine W_ret (X_then_ret ?_)
  refine X_ret1 rfl rfl ?_
  exact ⟨by rw [decide_eq_false (fun e => c (by rw [e]))], rfl⟩
 refine Ws ?_
 refine W_sub _ (tk3 4 0 1) ?_
 have hlen : a.length = b.length := by omega
 refine W_seq (W_seq (W_region ?_))
 refine Mv ?_
 refine Ly (Y_len Tryd.underlying28 rfl ha) ?_
 refine Mv ?_
 refine Nx ?_
 refine W_sub _ (tk5 13 12 4 0 1) ?_
 refine W_block ?_
 refine W_loop (S := Nat) (fun i => [(12, .int .i64 ((a.length : Int))), (0, v), (1, u), (13, .int .i64 ((i : Int)))]) (fun i h' => i ≤ a.length ∧ (∀ k, k < i → byt a k = byt b k) ∧ h' = h) (fun i => a.length - i) 0 (tk4 12 0 1 13) ?_ ?_
 ·exact ⟨Nat.zero_le _, (fun _ hk => absurd hk (Nat.not_lt_zero _)), rfl⟩
 rintro i h ⟨hi, hip, rfl⟩
 show W _ _ _ _ _ [(12, .int .i64 ((a.length : Int))), (0, v), (1, u), (13, .int .i64 ((i : Int)))] _
 refine Wr ?_
 refine Ly (Y_lss rfl rfl) ?_
 refine L_nil (X_then (W_seq ?_))
 refine W_splitd rfl (fun hl => ?_) (fun hl => ?_)
 ·refine Ws ?_
  refine W_sub _ (tk4 12 0 1 13) ?_
  refine W_seq (W_block (W_seq (W_region ?_)))
  refine Mv ?_
  refine Av ?_
  refine Nx ?_
  refine W_sub _ (tk5 5 12 0 1 13) ?_
  refine W_seq ?_
  refine W_quiet (fun h' => h' = h) (by kernel_rfl) (by kernel_rfl) rfl ?_
  refine LQ_yld (fun h_ hI_ => by subst hI_; exact Y_move rfl) rfl rfl rfl ?_
  refine LQ_yld (fun h_ hI_ => by subst hI_; exact Y_move rfl) rfl rfl rfl ?_
  refine LQ_yld (fun h_ hI_ => by subst hI_; exact Y_idx Tryd.underlying28 (show _ = some 1 by kernel_rfl) rfl rfl ha (by omega) (by omega)) rfl rfl rfl ?_
  refine LQ_yld (fun h_ hI_ => by subst hI_; exact Y_ldbyte Tryd.underlying5 rfl rfl ha (by omega) (by omega)) rfl rfl rfl ?_
  refine LQ_yld (fun h_ hI_ => by subst hI_; exact Y_move rfl) rfl rfl rfl ?_
  refine LQ_yld (fun h_ hI_ => by subst hI_; exact Y_move rfl) rfl rfl rfl ?_
  refine LQ_yld (fun h_ hI_ => by subst hI_; exact Y_idx Tryd.underlying28 (show _ = some 1 by kernel_rfl) rfl rfl hb (by omega) (by omega)) rfl rfl rfl ?_
  refine LQ_yld (fun h_ hI_ => by subst hI_; exact Y_ldbyte Tryd.underlying5 rfl rfl hb (by omega) (by omega)) rfl rfl rfl ?_
  refine LQ_yld (fun h_ hI_ => by subst hI_; exact Y_neq rfl rfl) rfl rfl rfl ?_
  refine LQ_nil ?_
  rintro h rfl
  refine X_then ?_
  refine W_sub _ (tk5 24 12 0 1 13) ?_
  refine W_splitd rfl (fun hne => ?_) (fun hne => ?_)
  ·refine Wr ?_
   refine Av ?_
   refine Nx ?_
   refine W_sub _ (tk5 4 12 0 1 13) ?_
   refine W_ret (X_block_ret (X_then_ret (X_then_ret (X_block_ret (X_then_ret ?_)))))
   refine X_ret1 rfl rfl ?_
   exact ⟨by rw [decide_eq_false (fun e => hne (by rw [e]))], rfl⟩
  refine W_skip (X_block (X_then ?_))
  refine W_sub _ (tk4 12 0 1 13) ?_
  refine W_region ?_
  refine Ly (Y_add rfl rfl (by omega) (by omega)) ?_
  refine Mv ?_
  refine L_nil ?_
  refine X_loop (i + 1) (tk4 12 0 1 13) ?_ ?_
  ·exact ⟨by omega, (step_ne hip (by simpa using hne)), rfl⟩
  (try dsimp only)
  omega
 refine W_exit ?_
 refine X_then_exit (X_then_exit ?_)
 refine X_block_hit ?_
 refine X_then ?_
 refine W_sub _ sN ?_
 refine Wr ?_
 refine Av ?_
 refine L_nil (X_then (W_ret ?_))
 refine X_ret1 rfl rfl ?_
 exact ⟨by rw [decide_eq_true (byt_extS hlen (fun k hk => hip k (by omega)))], rfl⟩

end Go.Xp
