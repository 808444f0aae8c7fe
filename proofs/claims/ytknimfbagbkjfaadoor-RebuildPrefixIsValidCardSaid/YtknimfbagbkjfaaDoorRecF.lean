/- Layer 9 (paxrec): Format. -/
import Derived.Test.YtknimfbagbkjfaaDoorRec
set_option linter.unusedSimpArgs false
set_option linter.unusedVariables false
set_option linter.unusedSectionVars false
namespace Go.Xp
open Go.Proofs

def sle (a b : List UInt8) : Bool := Op.bytesLess a b || a == b
/-- One record's bytes. -/
def rone (r : Rec) : List UInt8 := Lib.decDigits (psz (rrest r.key r.val)) ++ ([32] ++ r.key ++ [61] ++ r.val ++ [10])
def RGood (l : List Rec) (i : Nat) : Prop := i ≤ l.length ∧ ∀ k, k < i → rerr (at_rec l k).key (at_rec l k).val = 0 ∧ (0 < k → sle (at_rec l k).key (at_rec l (k - 1)).key = false)
theorem at_rec_eq {l : List Rec} {i : Nat} (h : i < l.length) : at_rec l i = l[i] := by
  rw [at_rec, List.getD_eq_getElem?_getD, List.getElem?_eq_getElem h]; rfl
theorem RGood.zero (l : List Rec) : RGood l 0 := ⟨Nat.zero_le _, fun k hk => absurd hk (Nat.not_lt_zero _)⟩
theorem RGood.succ {l : List Rec} {i : Nat} (h : RGood l i) (hi : i < l.length) (hb : rerr (at_rec l i).key (at_rec l i).val = 0) (ho : 0 < i → sle (at_rec l i).key (at_rec l (i - 1)).key = false) : RGood l (i + 1) :=
  ⟨hi, fun k hk => by
    rcases Nat.lt_succ_iff_lt_or_eq.1 hk with h1 | rfl
    · exact h.2 k h1
    · exact ⟨hb, ho⟩⟩
/-! Only three keys: no good list is longer. -/
def krank (k : List UInt8) : Nat := if k = [108, 105, 110, 107, 112, 97, 116, 104] then 0 else if k = [112, 97, 116, 104] then 1 else 2
theorem rerr_ok {k v : List UInt8} (h : rerr k v = 0) : (k = [108, 105, 110, 107, 112, 97, 116, 104] ∨ k = [112, 97, 116, 104] ∨ k = [115, 105, 122, 101]) := by
  unfold rerr at h
  split at h
  · rename_i h1; exact .inr (.inr h1)
  · split at h
    · rename_i h1; exact h1.elim .inl (fun h => .inr (.inl h))
    · cases h
theorem krank_lt {a b : List UInt8} (ha : a = [108, 105, 110, 107, 112, 97, 116, 104] ∨ a = [112, 97, 116, 104] ∨ a = [115, 105, 122, 101]) (hb : b = [108, 105, 110, 107, 112, 97, 116, 104] ∨ b = [112, 97, 116, 104] ∨ b = [115, 105, 122, 101]) (h : sle a b = false) : krank b < krank a := by
  rcases ha with rfl | rfl | rfl <;> rcases hb with rfl | rfl | rfl <;> revert h <;> decide
theorem RGood.rank {l : List Rec} : ∀ {i : Nat}, RGood l (i + 1) → i ≤ krank (at_rec l i).key
  | 0, _ => Nat.zero_le _
  | i + 1, h => by
    have h1 := RGood.rank (i := i) ⟨by have := h.1; omega, fun k hk => h.2 k (by omega)⟩
    have h2 := h.2 i (by omega)
    have h3 := h.2 (i + 1) (by omega)
    have := krank_lt (rerr_ok h3.1) (rerr_ok h2.1) (by have := h3.2 (by omega); simpa using this)
    omega
theorem krank_le (k : List UInt8) : krank k ≤ 2 := by unfold krank; split <;> (try split) <;> omega
theorem RGood.three {l : List Rec} {i : Nat} (h : RGood l i) : i ≤ 3 := by
  cases i with
  | zero => omega
  | succ i => have := h.rank; have := krank_le (at_rec l i).key; omega
theorem decN_big {s : List UInt8} (hd : decOk s = true) (h2 : 2 ≤ s.length) (h0 : ¬ (byt s 0 = 48 ∧ ¬ s = [48])) : 10 ^ (s.length - 1) ≤ decN s := by
  have hb := decOk_iff.1 hd
  have h9 : 49 ≤ byt s 0 := by
    have := hb 0 (by omega)
    rcases Int.lt_or_le (byt s 0) 49 with h2 | h2
    · exact absurd ⟨by omega, fun e => by have := congrArg List.length e; simp at this; omega⟩ h0
    · exact h2
  have key : ∀ i, i + 1 ≤ s.length → 10 ^ i ≤ decN (s.take (i + 1)) := by
    intro i
    induction i with
    | zero =>
      intro _
      rw [decN_step (by omega)]
      have : decN (s.take 0) = 0 := by simp [decN]
      omega
    | succ i ih =>
      intro h
      rw [decN_step (by omega), Nat.pow_succ]
      have := ih (by omega)
      omega
  have := key (s.length - 1) (by omega)
  rw [show s.length - 1 + 1 = s.length by omega, List.take_length] at this
  exact this
theorem rerr_len {k v : List UInt8} (h : rerr k v = 0) : k.length ≤ 8 ∧ v.length ≤ 65536 := by
  refine ⟨by rcases rerr_ok h with rfl | rfl | rfl <;> simp, ?_⟩
  unfold rerr at h
  split at h
  · have hn : nerr v 1099511627776 = 0 := h
    unfold nerr at hn
    split at hn
    · cases hn
    · rename_i h1
      simp only [not_or] at h1
      split at hn
      · cases hn
      · rename_i h2
        rcases Nat.lt_or_ge v.length 15 with h3 | h3
        · omega
        · have := decN_big (by simpa using h1.1) (by omega) h1.2.2
          have h4 : 10 ^ 14 ≤ 10 ^ (v.length - 1) := Nat.pow_le_pow_right (by decide) (by omega)
          have h5 : (10 : Nat) ^ 14 = 100000000000000 := by decide
          omega
  · split at h
    · split at h
      · cases h
      · omega
    · cases h
theorem psz_lt {r : Nat} (h : r ≤ 1152921504606846976) : psz r ≤ r + 25 := by have := pdig_ok h; unfold psz; omega
theorem rone_len {r : Rec} (h : rerr r.key r.val = 0) : (rone r).length ≤ 65600 := by
  have h1 := rerr_len h
  have h2 := psz_lt (r := rrest r.key r.val) (by unfold rrest; omega)
  have h3 := decDigits_len (a := psz (rrest r.key r.val)) (by unfold rrest at h2 ⊢; omega)
  unfold rone
  simp only [List.length_append, List.length_cons, List.length_nil]
  omega
theorem RGood.out {l : List Rec} : ∀ {i : Nat}, RGood l i → ((l.take i).flatMap rone).length ≤ 65600 * i
  | 0, _ => by simp
  | i + 1, h => by
    have h1 := RGood.out (i := i) ⟨by have := h.1; omega, fun k hk => h.2 k (by omega)⟩
    have hi : i < l.length := h.1
    have h2 := rone_len (r := at_rec l i) (h.2 i (by omega)).1
    rw [List.take_succ_eq_append_getElem hi, List.flatMap_append, List.length_append, ← at_rec_eq hi]
    simp only [List.flatMap_cons, List.flatMap_nil, List.append_nil]
    omega
/-! ### The keys -/

/-! ### The law's helpers -/
end Go.Xp
