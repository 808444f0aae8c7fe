/- Layer 2 (cstring): the walks of the program's functions and of its reference. -/
import Derived.Test.YtknimfbagbkjfaaGreatDoorLib
import Derived.Test.YtknimfbagbkjfaaGreatDoorProg
import Derived.KernelRfl
set_option linter.unusedSimpArgs false
set_option linter.unusedVariables false
namespace Go.Xp
open Go.Proofs

/-! ### Bytes -/
theorem step_ne {P : Nat → Prop} {i : Nat} (h : ∀ k, k < i → P k) (hi : P i) : ∀ k, k < i + 1 → P k := fun k hk => by
  rcases Nat.lt_succ_iff_lt_or_eq.1 hk with h1 | rfl
  · exact h k h1
  · exact hi
theorem indexByte_mem (l : List UInt8) (c : UInt8) : (0 ≤ Lib.indexByte l c) ↔ c ∈ l := by
  induction l with
  | nil => simp [Lib.indexByte]
  | cons a l ih =>
    simp only [Lib.indexByte, List.mem_cons]
    by_cases h : a = c
    · subst h; simp
    · have h2 : (a == c) = false := by simpa using h
      have h3 : ¬ c = a := fun h' => h h'.symm
      have := Lib.indexByte_ge l c
      rw [h2]
      simp only [Bool.false_eq_true, if_false, h3, false_or]
      rw [← ih]
      by_cases h1 : Lib.indexByte l c = -1
      · rw [h1]; simp
      · have h4 : (Lib.indexByte l c == -1) = false := by simpa using h1
        rw [h4]; simp only [Bool.false_eq_true, if_false]; omega

/-! ### What the layer answers -/
def cerr (s : List UInt8) (w : Int) : Int := if ¬ (1 ≤ w ∧ w ≤ 256) then 2 else if 0 ∈ s then 6 else if w < s.length then 7 else 0
def cfmt (s : List UInt8) (w : Int) : List UInt8 := if cerr s w = 0 then s ++ List.replicate (w.toNat - s.length) 0 else []

set_option maxRecDepth 100000 in
theorem cstring_valid (h : Heap) (w : Int) : Cal Tryz.prog 113 #[.int .i64 (w)] h (fun v h' => v = .bool (decide (1 ≤ w ∧ w ≤ 256)) ∧ h' = h) := by
 refine Cal_enter (args := [.int .i64 (w)]) Tryz.func113 rfl rfl rfl (fun σ => ?_)
 refine Wr ?_
 refine Av ?_
 refine Nx ?_
 refine W_cut (S := Unit) (fun _ => [(2, .bool (decide ((1 ≤ w) ∧ (w ≤ 256))))]) (fun _ h' => h' = h) ?_ ?_
 ·refine W_region ?_
  refine Mv ?_
  refine Ly (Y_geq rfl rfl) ?_
  refine Mv ?_
  refine L_splitd (d := 5) rfl (fun c1 => ?_) (fun c1 => ?_)
  ·refine Ly (Y_move rfl) ?_
   refine Ly (Y_leq rfl rfl) ?_
   refine Ly (Y_pick_t rfl rfl) ?_
   refine Av ?_
   refine L_nil ?_
   exact X_cut () (sk1 2 (lkb rfl (by first | (simp only [eq_true c1, SB]; done) | (simp only [eq_true c1, SB]; rfl))) sN) rfl
  refine Skp ?_
  refine Skp ?_
  refine Ly (Y_pick_f rfl rfl) ?_
  refine Av ?_
  refine L_nil ?_
  exact X_cut () (sk1 2 (lkb rfl (by first | (simp only [eq_false c1, SB]; done) | (simp only [eq_false c1, SB]; rfl))) sN) rfl
 rintro _ h rfl
 show W _ _ _ _ _ [(2, .bool (decide ((1 ≤ w) ∧ (w ≤ 256))))] _
 refine W_ret ?_
 refine X_ret1 rfl rfl ?_
 exact ⟨rfl, rfl⟩

set_option maxRecDepth 100000 in
theorem cstring_check (h : Heap) (s : List UInt8) (w : Int) : Cal Tryz.prog 86 #[str s, .int .i64 (w)] h (fun v h' => v = .int .i64 (cerr s w) ∧ h' = h) := by
 refine Cal_enter (args := [str s, .int .i64 (w)]) Tryz.func86 rfl rfl rfl (fun σ => ?_)
 refine Wr ?_
 refine Av ?_
 refine L_nil (X_then (W_seq (W_block (W_seq (W_region ?_)))))
 refine Mv ?_
 refine L_call (E_call (by kernel_rfl) rfl) (cstring_valid _ w) rfl rfl rfl ?_
 rintro _ h ⟨rfl, rfl⟩
 refine Ly (Y_notd rfl) ?_
 refine Av ?_
 refine Nx ?_
 refine W_sub _ (tk4 5 4 0 1) ?_
 refine W_splitd rfl (fun c1 => ?_) (fun c1 => ?_)
 ·refine Wr ?_
  refine Av ?_
  refine Nx ?_
  refine W_sub _ (tk1 4) ?_
  refine W_ret (X_block_ret (X_then_ret ?_))
  refine X_ret1 rfl rfl ?_
  refine ⟨?_, rfl⟩
  try simp only [indexByte_mem, show (0 : Int).toNat.toUInt8 = (0 : UInt8) from rfl] at *
  simp [cerr, *]
 refine Wr ?_
 refine Mv ?_
 refine L_call (E_call (by kernel_rfl) rfl) (strings_IndexByte _ s (0 : Int)) rfl rfl rfl ?_
 rintro _ h ⟨rfl, rfl⟩
 refine Ly (Y_geq rfl rfl) ?_
 refine Av ?_
 refine Nx ?_
 refine W_sub _ (tk4 9 4 0 1) ?_
 refine W_splitd rfl (fun c2 => ?_) (fun c2 => ?_)
 ·refine Wr ?_
  refine Av ?_
  refine Nx ?_
  refine W_sub _ (tk1 4) ?_
  refine W_ret (X_block_ret (X_then_ret ?_))
  refine X_ret1 rfl rfl ?_
  refine ⟨?_, rfl⟩
  try simp only [indexByte_mem, show (0 : Int).toNat.toUInt8 = (0 : UInt8) from rfl] at *
  simp [cerr, *]
 refine Wr ?_
 refine Mv ?_
 refine Ly (Y_slen Tryz.underlying9 rfl) ?_
 refine Mv ?_
 refine Ly (Y_gtr rfl rfl) ?_
 refine Av ?_
 refine Nx ?_
 refine W_sub _ (tk2 13 4) ?_
 refine W_splitd rfl (fun c3 => ?_) (fun c3 => ?_)
 ·refine Wr ?_
  refine Av ?_
  refine Nx ?_
  refine W_sub _ (tk1 4) ?_
  refine W_ret (X_block_ret (X_then_ret ?_))
  refine X_ret1 rfl rfl ?_
  refine ⟨?_, rfl⟩
  try simp only [indexByte_mem, show (0 : Int).toNat.toUInt8 = (0 : UInt8) from rfl] at *
  simp [cerr, *]
 refine W_skip (X_block (X_then ?_))
 refine W_sub _ (tk1 4) ?_
 refine Wr ?_
 refine Av ?_
 refine L_nil (X_then (W_ret ?_))
 refine X_ret1 rfl rfl ?_
 refine ⟨?_, rfl⟩
 try simp only [indexByte_mem, show (0 : Int).toNat.toUInt8 = (0 : UInt8) from rfl] at *
 simp [cerr, *]

set_option maxRecDepth 100000 in
theorem cstring_Format (h : Heap) (s : List UInt8) (w : Int) : Cal Tryz.prog 61 #[str s, .int .i64 (w)] h (fun v h' => ∃ s0, v = .tuple #[s0, .int .i64 (cerr s w)] ∧ Bytes h' s0 (cfmt s w) ∧ Ext h h') := by
 have hc : cerr s w = 0 → 1 ≤ w ∧ w ≤ 256 ∧ s.length ≤ w := by unfold cerr; (repeat' split) <;> intro h <;> simp_all <;> omega
 refine Cal_enter (args := [str s, .int .i64 (w)]) Tryz.func61 rfl rfl rfl (fun σ => ?_)
 refine Wr ?_
 refine Av ?_
 refine Av ?_
 refine L_nil (X_then (W_seq (W_seq (W_region ?_))))
 refine Mv ?_
 refine Mv ?_
 refine L_call (E_call (by kernel_rfl) rfl) (cstring_check _ s w) rfl rfl rfl ?_
 rintro _ h ⟨rfl, rfl⟩
 refine Av ?_
 refine Nx ?_
 refine W_sub _ (tk5 6 5 4 0 1) ?_
 refine Wr ?_
 refine Mv ?_
 refine Ly (Y_neq rfl rfl) ?_
 refine Nx ?_
 refine W_sub _ (tk6 12 6 5 4 0 1) ?_
 refine W_splitd rfl (fun h0 => ?_) (fun h0 => ?_)
 ·refine Wr ?_
  refine Mv ?_
  refine Av ?_
  refine Av ?_
  refine Nx ?_
  refine W_sub _ (tk4 5 4 0 1) ?_
  refine W_ret (X_then_ret ?_)
  refine X_ret2 rfl rfl rfl ?_
  exact ⟨_, rfl, by unfold cfmt; rw [if_neg h0]; exact Bytes.nil _, Ext.refl _⟩
 refine Ws ?_
 refine W_sub _ (tk4 5 4 0 1) ?_
 refine Wr ?_
 refine Mv ?_
 refine L_mks (M_makeb Tryz.underlying33 (by unfold elemRow; kernel_rfl) rfl rfl rfl (by have := hc (by simpa using h0); omega) (by have := hc (by simpa using h0); omega)) rfl rfl rfl ?_
 rintro _ h1 ⟨rfl, hx1, hb2⟩
 refine Av ?_
 refine Nx ?_
 refine W_sub _ (tk4 7 5 4 0) ?_
 refine Wr ?_
 refine Mv ?_
 refine Mv ?_
 refine L_mks (M_copys Tryz.underlying33 (show _ = some 1 by kernel_rfl) rfl rfl hb2 (by simp)) rfl rfl rfl ?_
 rintro _ h2 ⟨rfl, hx3, hs4, hb5⟩
 have hb6 : Buf h2 h.size (s ++ List.replicate (w.toNat - s.length) 0) := Buf.congr hb5 (by have := hc (by simpa using h0); rw [List.take_of_length_le (by omega : s.length ≤ w.toNat)]; simp [Nat.min_eq_left (by omega : s.length ≤ w.toNat)])
 refine Nx ?_
 refine W_sub _ (tk3 7 5 4) ?_
 refine Wr ?_
 refine Mv ?_
 refine Av ?_
 refine Av ?_
 refine Nx ?_
 refine W_sub _ (tk2 5 4) ?_
 refine W_ret ?_
 refine X_ret2 rfl rfl rfl ?_
 refine ⟨_, by rw [show cerr s w = 0 by simpa using h0], ?_, (hx1.then' hx3 (by simp) (Nat.le_refl _))⟩
 unfold cfmt
 rw [if_pos (by simpa using h0)]
 exact hb6.bytes (by have := hc (by simpa using h0); simp; omega)

/-! ### Parse -/
end Go.Xp
