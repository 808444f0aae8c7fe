/- Decimal numbers: a numeral and its value. -/
import Derived.Test.YtknimfbagbkjfaaGreatDoorRecF
import Derived.Test.YtknimfbagbkjfaaGreatDoorPath
set_option linter.unusedSimpArgs false
set_option linter.unusedVariables false
set_option linter.unusedSectionVars false
namespace Go.Xp
open Go.Proofs

theorem decN_dec : ∀ u : Nat, decN (Lib.decDigits u) = u := by
  intro u
  induction u using Nat.strongRecOn with
  | ind u ih =>
    rcases Nat.lt_or_ge u 10 with h | h
    · rw [Lib.decDigits_one h]
      have : (UInt8.ofNat (48 + u)).toNat = 48 + u := by rw [UInt8.toNat_ofNat']; omega
      show 0 * 10 + ((UInt8.ofNat (48 + u)).toNat - 48) = u
      rw [this]; omega
    · rw [decDigits_step h, decN_snoc, ih (u / 10) (by omega)]
      have : (UInt8.ofNat (48 + u % 10)).toNat = 48 + u % 10 := by rw [UInt8.toNat_ofNat']; omega
      rw [this]; omega
theorem dec_ok (u : Nat) : decOk (Lib.decDigits u) = true := by
  induction u using Nat.strongRecOn with
  | ind u ih =>
    rcases Nat.lt_or_ge u 10 with h | h
    · rw [Lib.decDigits_one h]
      unfold decOk
      have : (UInt8.ofNat (48 + u)).toNat = 48 + u := by rw [UInt8.toNat_ofNat']; omega
      simp [UInt8.le_iff_toNat_le, this]; omega
    · rw [decDigits_step h]
      have h1 := ih (u / 10) (by omega)
      unfold decOk at h1 ⊢
      have : (UInt8.ofNat (48 + u % 10)).toNat = 48 + u % 10 := by rw [UInt8.toNat_ofNat']; omega
      rw [List.all_append, h1]
      simp [UInt8.le_iff_toNat_le, this]; omega
theorem dec_ne (u : Nat) : Lib.decDigits u ≠ [] := fun e => by have := Lib.decDigits_length u; rw [e] at this; have := Lib.nDigits_pos u; simp at *; omega
theorem dec_lead : ∀ u : Nat, byt (Lib.decDigits u) 0 = 48 → u = 0 := by
  intro u
  induction u using Nat.strongRecOn with
  | ind u ih =>
    rcases Nat.lt_or_ge u 10 with h | h
    · rw [Lib.decDigits_one h]
      intro e
      have : (UInt8.ofNat (48 + u)).toNat = 48 + u := by rw [UInt8.toNat_ofNat']; omega
      have e2 : ((UInt8.ofNat (48 + u)).toNat : Int) = 48 := e
      omega
    · rw [decDigits_step h]
      intro e
      have hl : 0 < (Lib.decDigits (u / 10)).length := List.length_pos_iff.2 (dec_ne _)
      rw [byt_eq (by simp), List.getElem_append_left hl, ← byt_eq hl] at e
      have := ih (u / 10) (by omega) e
      omega
theorem nerr_dec {u : Nat} {m : Int} (h : (u : Int) ≤ m) : nerr (Lib.decDigits u) m = 0 := by
  unfold nerr
  rw [if_neg, if_neg (by rw [decN_dec]; omega)]
  rintro (h1 | h1 | h1)
  · rw [dec_ok] at h1; cases h1
  · exact dec_ne u h1
  · have := dec_lead u h1.1
    subst this
    exact h1.2 (by rw [Lib.decDigits_one (by decide)]; rfl)
end Go.Xp
