/- Layer 2 (cstring): the walks of the program's functions and of its reference. -/
import Derived.Test.YtlkkefiffjiliaaLib
import Derived.Test.YtlkkefiffjiliaaProg
import Derived.KernelRfl
set_option linter.unusedSimpArgs false
set_option linter.unusedVariables false
namespace Go.Xp
open Go.Proofs

/-! ### Bytes -/
theorem byt_ne {l : List UInt8} {c : UInt8} (h : ∀ k, k < l.length → ¬ byt l k = (c.toNat : Int)) : c ∉ l := by
  intro hm
  obtain ⟨k, hk, he⟩ := List.getElem_of_mem hm
  exact h k hk (by rw [byt_eq hk, he])
theorem byt_mem {l : List UInt8} {c : UInt8} {k : Nat} (hk : k < l.length) (h : byt l k = (c.toNat : Int)) : c ∈ l := by
  rw [byt_eq hk] at h
  have : l[k] = c := UInt8.toNat_inj.1 (by omega)
  exact this ▸ List.getElem_mem hk
theorem step_ne {P : Nat → Prop} {i : Nat} (h : ∀ k, k < i → P k) (hi : P i) : ∀ k, k < i + 1 → P k := fun k hk => by
  rcases Nat.lt_succ_iff_lt_or_eq.1 hk with h1 | rfl
  · exact h k h1
  · exact hi
theorem indexByte_mem (l : List UInt8) (c : UInt8) : (0 ≤ Lib.indexByte l c) ↔ c ∈ l := by
  induction l with
  | nil => simp [Lib.indexByte]
  | cons a l ih =>
    simp only [Lib.indexByte, List.mem_cons]
    by_cases h : a = c
    · subst h; simp
    · have h2 : (a == c) = false := by simpa using h
      have h3 : ¬ c = a := fun h' => h h'.symm
      have := Lib.indexByte_ge l c
      rw [h2]
      simp only [Bool.false_eq_true, if_false, h3, false_or]
      rw [← ih]
      by_cases h1 : Lib.indexByte l c = -1
      · rw [h1]; simp
      · have h4 : (Lib.indexByte l c == -1) = false := by simpa using h1
        rw [h4]; simp only [Bool.false_eq_true, if_false]; omega

/-! ### What the layer answers -/
def cerr (s : List UInt8) (w : Int) : Int := if ¬ (1 ≤ w ∧ w ≤ 256) then 2 else if 0 ∈ s then 6 else if w < s.length then 7 else 0
def cfmt (s : List UInt8) (w : Int) : List UInt8 := if cerr s w = 0 then s ++ List.replicate (w.toNat - s.length) 0 else []

set_option maxRecDepth 100000 in
theorem cstring_valid (h : Heap) (w : Int) : Cal Try.prog 45 #[.int .i64 (w)] h (fun v h' => v = .bool (decide (1 ≤ w ∧ w ≤ 256)) ∧ h' = h) := by
  refine Cal_enter (args := [.int .i64 (w)]) Try.func45 rfl rfl rfl (fun σ => ?_)
  refine W_seq ?_
  refine W_region ?_
  refine L_yld (Y_assign rfl) rfl rfl rfl ?_
  refine L_nil ?_
  refine X_then ?_
  refine W_cut (S := Unit) (fun _ => [(2, .bool (decide ((1 ≤ w) ∧ (w ≤ 256))))]) (fun _ h' => h' = h) ?_ ?_
  · refine W_region ?_
    refine L_yld (Y_move rfl) rfl rfl rfl ?_
    refine L_yld (Y_geq rfl rfl) rfl rfl rfl ?_
    refine L_yld (Y_move rfl) rfl rfl rfl ?_
    refine L_splitd (d := 5) rfl (fun c1 => ?_) (fun c1 => ?_)
    · refine L_yld (Y_move rfl) rfl rfl rfl ?_
      refine L_yld (Y_leq rfl rfl) rfl rfl rfl ?_
      refine L_yld (Y_pick_t rfl rfl) rfl rfl rfl ?_
      refine L_yld (Y_assign rfl) rfl rfl rfl ?_
      refine L_nil ?_
      exact X_cut () (.cons (i := 2) (lkb rfl (by simp only [c1, true_and, and_true, false_and, and_false, true_or, or_true, false_or, or_false, not_true_eq_false, not_false_eq_true, decide_true, decide_false, Bool.true_eq_false, Bool.false_eq_true, eq_self, Bool.decide_eq_true])) (.nil _)) rfl
    · refine L_skip rfl rfl rfl ?_
      refine L_skip rfl rfl rfl ?_
      refine L_yld (Y_pick_f rfl rfl) rfl rfl rfl ?_
      refine L_yld (Y_assign rfl) rfl rfl rfl ?_
      refine L_nil ?_
      exact X_cut () (.cons (i := 2) (lkb rfl (by simp only [c1, true_and, and_true, false_and, and_false, true_or, or_true, false_or, or_false, not_true_eq_false, not_false_eq_true, decide_true, decide_false, Bool.true_eq_false, Bool.false_eq_true, eq_self, Bool.decide_eq_true])) (.nil _)) rfl
  rintro _ h rfl
  show W _ _ _ _ _ [(2, .bool (decide ((1 ≤ w) ∧ (w ≤ 256))))] _
  refine W_ret ?_
  refine X_ret1 rfl rfl ?_
  exact ⟨rfl, rfl⟩

set_option maxRecDepth 100000 in
theorem cstring_check (h : Heap) (s : List UInt8) (w : Int) : Cal Try.prog 38 #[str s, .int .i64 (w)] h (fun v h' => v = .int .i64 (cerr s w) ∧ h' = h) := by
  refine Cal_enter (args := [str s, .int .i64 (w)]) Try.func38 rfl rfl rfl (fun σ => ?_)
  refine W_seq ?_
  refine W_region ?_
  refine L_yld (Y_assign rfl) rfl rfl rfl ?_
  refine L_nil ?_
  refine X_then ?_
  refine W_seq ?_
  refine W_block ?_
  refine W_seq ?_
  refine W_region ?_
  refine L_yld (Y_move rfl) rfl rfl rfl ?_
  refine L_call (E_call (by kernel_rfl) rfl) (cstring_valid _ w) rfl rfl rfl ?_
  rintro _ h ⟨rfl, rfl⟩
  refine L_yld (Y_notd rfl) rfl rfl rfl ?_
  refine L_yld (Y_assign rfl) rfl rfl rfl ?_
  refine L_nil ?_
  refine X_then ?_
  refine W_sub _ (.cons (i := 5) rfl (.cons (i := 4) rfl (.cons (i := 0) rfl (.cons (i := 1) rfl (.nil _))))) ?_
  refine W_splitd rfl (fun c1 => ?_) (fun c1 => ?_)
  · refine W_seq ?_
    refine W_region ?_
    refine L_yld (Y_assign rfl) rfl rfl rfl ?_
    refine L_nil ?_
    refine X_then ?_
    refine W_sub _ (.cons (i := 4) rfl (.nil _)) ?_
    refine W_ret ?_
    refine X_block_ret ?_
    refine X_then_ret ?_
    refine X_ret1 rfl rfl ?_
    refine ⟨?_, rfl⟩
    try simp only [indexByte_mem, show (0 : Int).toNat.toUInt8 = (0 : UInt8) from rfl] at *
    simp [cerr, *]
  · refine W_seq ?_
    refine W_region ?_
    refine L_yld (Y_move rfl) rfl rfl rfl ?_
    refine L_call (E_call (by kernel_rfl) rfl) (strings_IndexByte _ s (0 : Int)) rfl rfl rfl ?_
    rintro _ h ⟨rfl, rfl⟩
    refine L_yld (Y_geq rfl rfl) rfl rfl rfl ?_
    refine L_yld (Y_assign rfl) rfl rfl rfl ?_
    refine L_nil ?_
    refine X_then ?_
    refine W_sub _ (.cons (i := 9) rfl (.cons (i := 4) rfl (.cons (i := 0) rfl (.cons (i := 1) rfl (.nil _))))) ?_
    refine W_splitd rfl (fun c2 => ?_) (fun c2 => ?_)
    · refine W_seq ?_
      refine W_region ?_
      refine L_yld (Y_assign rfl) rfl rfl rfl ?_
      refine L_nil ?_
      refine X_then ?_
      refine W_sub _ (.cons (i := 4) rfl (.nil _)) ?_
      refine W_ret ?_
      refine X_block_ret ?_
      refine X_then_ret ?_
      refine X_ret1 rfl rfl ?_
      refine ⟨?_, rfl⟩
      try simp only [indexByte_mem, show (0 : Int).toNat.toUInt8 = (0 : UInt8) from rfl] at *
      simp [cerr, *]
    · refine W_seq ?_
      refine W_region ?_
      refine L_yld (Y_move rfl) rfl rfl rfl ?_
      refine L_yld (Y_slen Try.underlying9 rfl) rfl rfl rfl ?_
      refine L_yld (Y_move rfl) rfl rfl rfl ?_
      refine L_yld (Y_gtr rfl rfl) rfl rfl rfl ?_
      refine L_yld (Y_assign rfl) rfl rfl rfl ?_
      refine L_nil ?_
      refine X_then ?_
      refine W_sub _ (.cons (i := 13) rfl (.cons (i := 4) rfl (.nil _))) ?_
      refine W_splitd rfl (fun c3 => ?_) (fun c3 => ?_)
      · refine W_seq ?_
        refine W_region ?_
        refine L_yld (Y_assign rfl) rfl rfl rfl ?_
        refine L_nil ?_
        refine X_then ?_
        refine W_sub _ (.cons (i := 4) rfl (.nil _)) ?_
        refine W_ret ?_
        refine X_block_ret ?_
        refine X_then_ret ?_
        refine X_ret1 rfl rfl ?_
        refine ⟨?_, rfl⟩
        try simp only [indexByte_mem, show (0 : Int).toNat.toUInt8 = (0 : UInt8) from rfl] at *
        simp [cerr, *]
      · refine W_skip ?_
        refine X_block ?_
        refine X_then ?_
        refine W_sub _ (.cons (i := 4) rfl (.nil _)) ?_
        refine W_seq ?_
        refine W_region ?_
        refine L_yld (Y_assign rfl) rfl rfl rfl ?_
        refine L_nil ?_
        refine X_then ?_
        refine W_ret ?_
        refine X_ret1 rfl rfl ?_
        refine ⟨?_, rfl⟩
        try simp only [indexByte_mem, show (0 : Int).toNat.toUInt8 = (0 : UInt8) from rfl] at *
        simp [cerr, *]

set_option maxRecDepth 100000 in
theorem cstring_Fits (h : Heap) (s : List UInt8) (w : Int) : Cal Try.prog 20 #[str s, .int .i64 (w)] h (fun v h' => v = .bool (decide (cerr s w = 0)) ∧ h' = h) := by
  refine Cal_enter (args := [str s, .int .i64 (w)]) Try.func20 rfl rfl rfl (fun σ => ?_)
  refine W_seq ?_
  refine W_region ?_
  refine L_yld (Y_assign rfl) rfl rfl rfl ?_
  refine L_nil ?_
  refine X_then ?_
  refine W_seq ?_
  refine W_region ?_
  refine L_yld (Y_move rfl) rfl rfl rfl ?_
  refine L_yld (Y_move rfl) rfl rfl rfl ?_
  refine L_call (E_call (by kernel_rfl) rfl) (cstring_check _ s w) rfl rfl rfl ?_
  rintro _ h ⟨rfl, rfl⟩
  refine L_yld (Y_eql rfl rfl) rfl rfl rfl ?_
  refine L_yld (Y_assign rfl) rfl rfl rfl ?_
  refine L_nil ?_
  refine X_then ?_
  refine W_sub _ (.cons (i := 4) rfl (.nil _)) ?_
  refine W_ret ?_
  refine X_ret1 rfl rfl ?_
  exact ⟨rfl, rfl⟩

set_option maxRecDepth 100000 in
theorem cstring_Format (h : Heap) (s : List UInt8) (w : Int) : Cal Try.prog 18 #[str s, .int .i64 (w)] h (fun v h' => ∃ s0, v = .tuple #[s0, .int .i64 (cerr s w)] ∧ Bytes h' s0 (cfmt s w) ∧ Ext h h') := by
  have hc : cerr s w = 0 → 1 ≤ w ∧ w ≤ 256 ∧ s.length ≤ w := by unfold cerr; (repeat' split) <;> intro h <;> simp_all <;> omega
  refine Cal_enter (args := [str s, .int .i64 (w)]) Try.func18 rfl rfl rfl (fun σ => ?_)
  refine W_seq ?_
  refine W_region ?_
  refine L_yld (Y_assign rfl) rfl rfl rfl ?_
  refine L_yld (Y_assign rfl) rfl rfl rfl ?_
  refine L_nil ?_
  refine X_then ?_
  refine W_seq ?_
  refine W_seq ?_
  refine W_region ?_
  refine L_yld (Y_move rfl) rfl rfl rfl ?_
  refine L_yld (Y_move rfl) rfl rfl rfl ?_
  refine L_call (E_call (by kernel_rfl) rfl) (cstring_check _ s w) rfl rfl rfl ?_
  rintro _ h ⟨rfl, rfl⟩
  refine L_yld (Y_assign rfl) rfl rfl rfl ?_
  refine L_nil ?_
  refine X_then ?_
  refine W_sub _ (.cons (i := 6) rfl (.cons (i := 5) rfl (.cons (i := 4) rfl (.cons (i := 0) rfl (.cons (i := 1) rfl (.nil _)))))) ?_
  refine W_seq ?_
  refine W_region ?_
  refine L_yld (Y_move rfl) rfl rfl rfl ?_
  refine L_yld (Y_neq rfl rfl) rfl rfl rfl ?_
  refine L_nil ?_
  refine X_then ?_
  refine W_sub _ (.cons (i := 12) rfl (.cons (i := 6) rfl (.cons (i := 5) rfl (.cons (i := 4) rfl (.cons (i := 0) rfl (.cons (i := 1) rfl (.nil _))))))) ?_
  refine W_splitd rfl (fun h0 => ?_) (fun h0 => ?_)
  · refine W_seq ?_
    refine W_region ?_
    refine L_yld (Y_move rfl) rfl rfl rfl ?_
    refine L_yld (Y_assign rfl) rfl rfl rfl ?_
    refine L_yld (Y_assign rfl) rfl rfl rfl ?_
    refine L_nil ?_
    refine X_then ?_
    refine W_sub _ (.cons (i := 5) rfl (.cons (i := 4) rfl (.cons (i := 0) rfl (.cons (i := 1) rfl (.nil _))))) ?_
    refine W_ret ?_
    refine X_then_ret ?_
    refine X_ret2 rfl rfl rfl ?_
    exact ⟨_, rfl, by unfold cfmt; rw [if_neg h0]; exact Bytes.nil _, Ext.refl _⟩
  · refine W_skip ?_
    refine X_then ?_
    refine W_sub _ (.cons (i := 5) rfl (.cons (i := 4) rfl (.cons (i := 0) rfl (.cons (i := 1) rfl (.nil _))))) ?_
    refine W_seq ?_
    refine W_region ?_
    refine L_yld (Y_move rfl) rfl rfl rfl ?_
    refine L_mks (M_makeb Try.underlying23 (by unfold elemRow; kernel_rfl) rfl rfl rfl (by have := hc (by simpa using h0); omega) (by have := hc (by simpa using h0); omega)) rfl rfl rfl ?_
    rintro _ h1 ⟨rfl, hx1, hb2⟩
    refine L_yld (Y_assign rfl) rfl rfl rfl ?_
    refine L_nil ?_
    refine X_then ?_
    refine W_sub _ (.cons (i := 7) rfl (.cons (i := 5) rfl (.cons (i := 4) rfl (.cons (i := 0) rfl (.nil _))))) ?_
    refine W_seq ?_
    refine W_region ?_
    refine L_yld (Y_move rfl) rfl rfl rfl ?_
    refine L_yld (Y_move rfl) rfl rfl rfl ?_
    refine L_mks (M_copys Try.underlying23 (show _ = some 1 by kernel_rfl) rfl rfl hb2 (by simp)) rfl rfl rfl ?_
    rintro _ h2 ⟨rfl, hx3, hs4, hb5⟩
    have hb6 : Buf h2 h.size (s ++ List.replicate (w.toNat - s.length) 0) := Buf.congr hb5 (by have := hc (by simpa using h0); rw [List.take_of_length_le (by omega : s.length ≤ w.toNat)]; simp [Nat.min_eq_left (by omega : s.length ≤ w.toNat)])
    refine L_nil ?_
    refine X_then ?_
    refine W_sub _ (.cons (i := 7) rfl (.cons (i := 5) rfl (.cons (i := 4) rfl (.nil _)))) ?_
    refine W_seq ?_
    refine W_region ?_
    refine L_yld (Y_move rfl) rfl rfl rfl ?_
    refine L_yld (Y_assign rfl) rfl rfl rfl ?_
    refine L_yld (Y_assign rfl) rfl rfl rfl ?_
    refine L_nil ?_
    refine X_then ?_
    refine W_sub _ (.cons (i := 5) rfl (.cons (i := 4) rfl (.nil _))) ?_
    refine W_ret ?_
    refine X_ret2 rfl rfl rfl ?_
    refine ⟨_, by rw [show cerr s w = 0 by simpa using h0], ?_, (hx1.then' hx3 (by simp) (Nat.le_refl _))⟩
    unfold cfmt
    rw [if_pos (by simpa using h0)]
    exact hb6.bytes (by have := hc (by simpa using h0); simp; omega)

set_option maxRecDepth 100000 in
theorem ref02_Format (h : Heap) (s : List UInt8) (w : Int) (hs : s.length ≤ 1048576) : Cal Try.prog 19 #[str s, .int .i64 (w)] h (fun v h' => ∃ s0, v = .tuple #[s0, .int .i64 (cerr s w)] ∧ Bytes h' s0 (cfmt s w) ∧ Ext h h') := by
  have hbad : ¬ (1 ≤ w ∧ w ≤ 256) → cerr s w = 2 := fun h => by unfold cerr; rw [if_pos h]
  refine Cal_enter (args := [str s, .int .i64 (w)]) Try.func19 rfl rfl rfl (fun σ => ?_)
  refine W_seq ?_
  refine W_region ?_
  refine L_yld (Y_assign rfl) rfl rfl rfl ?_
  refine L_yld (Y_assign rfl) rfl rfl rfl ?_
  refine L_nil ?_
  refine X_then ?_
  refine W_seq ?_
  refine W_cut (S := Unit) (fun _ => [(13, .bool (decide ((w < 1) ∨ (256 < w)))), (5, .int .i64 0), (4, .slice none 0 0), (0, str s), (1, .int .i64 (w))]) (fun _ h' => h' = h) ?_ ?_
  · refine W_region ?_
    refine L_yld (Y_move rfl) rfl rfl rfl ?_
    refine L_yld (Y_lss rfl rfl) rfl rfl rfl ?_
    refine L_yld (Y_move rfl) rfl rfl rfl ?_
    refine L_splitd (d := 10) rfl (fun g1 => ?_) (fun g1 => ?_)
    · refine L_skip rfl rfl rfl ?_
      refine L_skip rfl rfl rfl ?_
      refine L_yld (Y_pick_t rfl rfl) rfl rfl rfl ?_
      refine L_nil ?_
      exact X_cut () (.cons (i := 13) (lkb rfl (by simp only [g1, true_and, and_true, false_and, and_false, true_or, or_true, false_or, or_false, not_true_eq_false, not_false_eq_true, decide_true, decide_false, Bool.true_eq_false, Bool.false_eq_true, eq_self, Bool.decide_eq_true])) (.cons (i := 5) rfl (.cons (i := 4) rfl (.cons (i := 0) rfl (.cons (i := 1) rfl (.nil _)))))) rfl
    · refine L_yld (Y_move rfl) rfl rfl rfl ?_
      refine L_yld (Y_gtr rfl rfl) rfl rfl rfl ?_
      refine L_yld (Y_pick_f rfl rfl) rfl rfl rfl ?_
      refine L_nil ?_
      exact X_cut () (.cons (i := 13) (lkb rfl (by simp only [g1, true_and, and_true, false_and, and_false, true_or, or_true, false_or, or_false, not_true_eq_false, not_false_eq_true, decide_true, decide_false, Bool.true_eq_false, Bool.false_eq_true, eq_self, Bool.decide_eq_true])) (.cons (i := 5) rfl (.cons (i := 4) rfl (.cons (i := 0) rfl (.cons (i := 1) rfl (.nil _)))))) rfl
  rintro _ h rfl
  show W _ _ _ _ _ [(13, .bool (decide ((w < 1) ∨ (256 < w)))), (5, .int .i64 0), (4, .slice none 0 0), (0, str s), (1, .int .i64 (w))] _
  refine W_splitd rfl (fun g2 => ?_) (fun g2 => ?_)
  · refine W_seq ?_
    refine W_region ?_
    refine L_yld (Y_assign rfl) rfl rfl rfl ?_
    refine L_yld (Y_assign rfl) rfl rfl rfl ?_
    refine L_nil ?_
    refine X_then ?_
    refine W_sub _ (.cons (i := 5) rfl (.cons (i := 4) rfl (.cons (i := 0) rfl (.cons (i := 1) rfl (.nil _))))) ?_
    refine W_ret ?_
    refine X_then_ret ?_
    refine X_ret2 rfl rfl rfl ?_
    refine ⟨_, by rw [hbad (by omega)], ?_, Ext.refl _⟩
    unfold cfmt
    rw [if_neg (by rw [hbad (by omega)]; decide)]
    exact Bytes.nil _
  · refine W_skip ?_
    refine X_then ?_
    refine W_sub _ (.cons (i := 5) rfl (.cons (i := 4) rfl (.cons (i := 0) rfl (.cons (i := 1) rfl (.nil _))))) ?_
    refine W_seq ?_
    refine W_seq ?_
    refine W_region ?_
    refine L_yld (Y_assign rfl) rfl rfl rfl ?_
    refine L_nil ?_
    refine X_then ?_
    refine W_block ?_
    refine W_loop (S := Nat) (fun i => [(0, str s), (1, .int .i64 (w)), (6, .int .i64 ((i : Int)))]) (fun i h' => i ≤ s.length ∧ (∀ k, k < i → ¬ byt s k = 0) ∧ h' = h) (fun i => s.length - i) 0 (.cons (i := 0) rfl (.cons (i := 1) rfl (.cons (i := 6) rfl (.nil _)))) ?_ ?_
    · exact ⟨Nat.zero_le _, (fun _ hk => absurd hk (Nat.not_lt_zero _)), rfl⟩
    rintro i h ⟨hi, hip, rfl⟩
    show W _ _ _ _ _ [(0, str s), (1, .int .i64 (w)), (6, .int .i64 ((i : Int)))] _
    refine W_seq ?_
    refine W_seq ?_
    refine W_region ?_
    refine L_yld (Y_move rfl) rfl rfl rfl ?_
    refine L_yld (Y_move rfl) rfl rfl rfl ?_
    refine L_yld (Y_slen Try.underlying9 rfl) rfl rfl rfl ?_
    refine L_yld (Y_lss rfl rfl) rfl rfl rfl ?_
    refine L_nil ?_
    refine X_then ?_
    refine W_sub _ (.cons (i := 17) rfl (.cons (i := 0) rfl (.cons (i := 1) rfl (.cons (i := 6) rfl (.nil _))))) ?_
    refine W_splitd rfl (fun hl => ?_) (fun hl => ?_)
    · refine W_skip ?_
      refine X_then ?_
      refine W_sub _ (.cons (i := 0) rfl (.cons (i := 1) rfl (.cons (i := 6) rfl (.nil _)))) ?_
      refine W_seq ?_
      refine W_block ?_
      refine W_seq ?_
      refine W_region ?_
      refine L_yld (Y_move rfl) rfl rfl rfl ?_
      refine L_yld (Y_move rfl) rfl rfl rfl ?_
      refine L_yld (Y_sidx Try.underlying9 rfl rfl (by omega) (by omega)) rfl rfl rfl ?_
      refine L_yld (Y_eql rfl rfl) rfl rfl rfl ?_
      refine L_nil ?_
      refine X_then ?_
      refine W_sub _ (.cons (i := 23) rfl (.cons (i := 0) rfl (.cons (i := 1) rfl (.cons (i := 6) rfl (.nil _))))) ?_
      refine W_splitd rfl (fun he => ?_) (fun hne => ?_)
      · refine W_seq ?_
        refine W_region ?_
        refine L_yld (Y_assign rfl) rfl rfl rfl ?_
        refine L_yld (Y_assign rfl) rfl rfl rfl ?_
        refine L_nil ?_
        refine X_then ?_
        refine W_sub _ (.cons (i := 5) rfl (.cons (i := 4) rfl (.cons (i := 0) rfl (.cons (i := 1) rfl (.cons (i := 6) rfl (.nil _)))))) ?_
        refine W_ret ?_
        refine X_block_ret ?_
        refine X_then_ret ?_
        refine X_then_ret ?_
        refine X_block_ret ?_
        refine X_then_ret ?_
        refine X_ret2 rfl rfl rfl ?_
        have hz : (0 : UInt8) ∈ s := byt_mem (by omega) he
        have hc : cerr s w = 6 := by unfold cerr; rw [if_neg (by omega), if_pos hz]
        refine ⟨_, by rw [hc], ?_, Ext.refl _⟩
        unfold cfmt
        rw [if_neg (by rw [hc]; decide)]
        exact Bytes.nil _
      · refine W_skip ?_
        refine X_block ?_
        refine X_then ?_
        refine W_sub _ (.cons (i := 0) rfl (.cons (i := 1) rfl (.cons (i := 6) rfl (.nil _)))) ?_
        refine W_region ?_
        refine L_yld (Y_move rfl) rfl rfl rfl ?_
        refine L_yld (Y_add rfl rfl (by omega) (by omega)) rfl rfl rfl ?_
        refine L_yld (Y_assign rfl) rfl rfl rfl ?_
        refine L_nil ?_
        refine X_loop (i + 1) (.cons (i := 0) rfl (.cons (i := 1) rfl (.cons (i := 6) rfl (.nil _)))) ?_ ?_
        · exact ⟨by omega, (step_ne hip hne), rfl⟩
        · (try dsimp only)
          omega
    · refine W_exit ?_
      refine X_then_exit ?_
      refine X_then_exit ?_
      refine X_block_hit ?_
      refine X_then ?_
      refine W_sub _ (.cons (i := 0) rfl (.cons (i := 1) rfl (.nil _))) ?_
      have hz : (0 : UInt8) ∉ s := byt_ne (fun k hk => hip k (by omega))
      refine W_seq ?_
      refine W_seq ?_
      refine W_region ?_
      refine L_yld (Y_move rfl) rfl rfl rfl ?_
      refine L_yld (Y_slen Try.underlying9 rfl) rfl rfl rfl ?_
      refine L_yld (Y_move rfl) rfl rfl rfl ?_
      refine L_yld (Y_gtr rfl rfl) rfl rfl rfl ?_
      refine L_nil ?_
      refine X_then ?_
      refine W_sub _ (.cons (i := 27) rfl (.cons (i := 0) rfl (.cons (i := 1) rfl (.nil _)))) ?_
      refine W_splitd rfl (fun hw => ?_) (fun hw => ?_)
      · refine W_seq ?_
        refine W_region ?_
        refine L_yld (Y_assign rfl) rfl rfl rfl ?_
        refine L_yld (Y_assign rfl) rfl rfl rfl ?_
        refine L_nil ?_
        refine X_then ?_
        refine W_sub _ (.cons (i := 5) rfl (.cons (i := 4) rfl (.cons (i := 0) rfl (.cons (i := 1) rfl (.nil _))))) ?_
        refine W_ret ?_
        refine X_then_ret ?_
        refine X_ret2 rfl rfl rfl ?_
        have hc : cerr s w = 7 := by unfold cerr; rw [if_neg (by omega), if_neg hz, if_pos hw]
        refine ⟨_, by rw [hc], ?_, Ext.refl _⟩
        unfold cfmt
        rw [if_neg (by rw [hc]; decide)]
        exact Bytes.nil _
      · refine W_skip ?_
        refine X_then ?_
        refine W_sub _ (.cons (i := 0) rfl (.cons (i := 1) rfl (.nil _))) ?_
        have hc : cerr s w = 0 := by unfold cerr; rw [if_neg (by omega), if_neg hz, if_neg hw]
        refine W_seq ?_
        refine W_region ?_
        refine L_yld (Y_move rfl) rfl rfl rfl ?_
        refine L_mks (M_strb Try.underlying9 Try.underlying23 Try.underlying5 rfl) rfl rfl rfl ?_
        rintro v1 h1 ⟨ho2, hx3⟩
        refine L_yld (Y_assign rfl) rfl rfl rfl ?_
        refine L_nil ?_
        refine X_then ?_
        refine W_sub _ (.cons (i := 7) rfl (.cons (i := 1) rfl (.nil _))) ?_
        refine W_seq ?_
        refine W_block ?_
        refine W_loop (S := Value × Nat) (fun (v, m) => [(1, .int .i64 (w)), (7, v)]) (fun (v, m) h' => OwnB h' h.size v (s ++ List.replicate m 0) ∧ Ext h h' ∧ s.length + m ≤ w.toNat) (fun (v, m) => w.toNat - s.length - m) (v1, 0) (.cons (i := 1) rfl (.cons (i := 7) rfl (.nil _))) ?_ ?_
        · exact ⟨(by simpa using ho2), hx3, by omega⟩
        rintro ⟨v, m⟩ h2 ⟨ho, hx, hm⟩
        show W _ _ _ _ _ [(1, .int .i64 (w)), (7, v)] _
        refine W_seq ?_
        refine W_seq ?_
        refine W_region ?_
        refine L_yld (Y_move rfl) rfl rfl rfl ?_
        refine L_yld (Y_len Try.underlying23 rfl ho.bytes) rfl rfl rfl ?_
        refine L_yld (Y_move rfl) rfl rfl rfl ?_
        refine L_yld (Y_lss rfl rfl) rfl rfl rfl ?_
        refine L_nil ?_
        refine X_then ?_
        refine W_sub _ (.cons (i := 33) rfl (.cons (i := 1) rfl (.cons (i := 7) rfl (.nil _)))) ?_
        refine W_splitd rfl (fun hl => ?_) (fun hl => ?_)
        · refine W_skip ?_
          refine X_then ?_
          refine W_sub _ (.cons (i := 1) rfl (.cons (i := 7) rfl (.nil _))) ?_
          refine W_block ?_
          refine W_region ?_
          refine L_yld (Y_move rfl) rfl rfl rfl ?_
          refine L_mks (M_litb (l := [0]) (pv := [(0, .int .u8 0)]) (E := 5) (evp (is := [0]) (os := [.const (.int .u8 0)]) rfl rfl) rfl (fun _ => by kernel_rfl)) rfl rfl rfl ?_
          rintro v4 h3 ⟨ho5, hx6⟩
          refine L_mks (M_appb Try.underlying23 (by unfold elemRow; kernel_rfl) rfl rfl (ho.ext hx6) ho5.bytes (hx.trans hx6).size (by first | omega | (simp; omega))) rfl rfl rfl ?_
          rintro v7 h4 ha8
          refine L_yld (Y_assign rfl) rfl rfl rfl ?_
          refine L_nil ?_
          refine X_block ?_
          refine X_loop ((v7, m + 1)) (.cons (i := 1) rfl (.cons (i := 7) rfl (.nil _))) ?_ ?_
          · exact ⟨ha8.own.congr (by simp [List.replicate_succ']), ((hx.trans hx6).then' ha8.only ha8.ge (Nat.le_refl _)), (by simp at hl; omega)⟩
          · (try dsimp only)
            simp at hl; omega
        · refine W_exit ?_
          refine X_then_exit ?_
          refine X_then_exit ?_
          refine X_block_hit ?_
          refine X_then ?_
          refine W_sub _ (.cons (i := 7) rfl (.nil _)) ?_
          refine W_seq ?_
          refine W_region ?_
          refine L_yld (Y_move rfl) rfl rfl rfl ?_
          refine L_yld (Y_assign rfl) rfl rfl rfl ?_
          refine L_yld (Y_assign rfl) rfl rfl rfl ?_
          refine L_nil ?_
          refine X_then ?_
          refine W_sub _ (.cons (i := 5) rfl (.cons (i := 4) rfl (.nil _))) ?_
          refine W_ret ?_
          refine X_ret2 rfl rfl rfl ?_
          refine ⟨_, by rw [hc], ?_, hx⟩
          have hm' : m = w.toNat - s.length := by simp at hl; omega
          unfold cfmt
          rw [if_pos hc, ← hm']
          exact ho.bytes

end Go.Xp
