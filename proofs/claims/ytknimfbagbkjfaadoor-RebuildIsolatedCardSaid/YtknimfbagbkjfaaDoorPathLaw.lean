/- Layer 8 (pathname): the laws' own text, for those that do not call Check. -/
import Derived.Test.YtknimfbagbkjfaaDoorPath
import Derived.Test.YtknimfbagbkjfaaDoorLaidN
set_option linter.unusedSimpArgs false
set_option linter.unusedVariables false
namespace Go.Xp
open Go.Proofs

theorem less_total : ∀ {a b : List UInt8}, Op.bytesLess a b = false → Op.bytesLess b a = false → a = b
  | [], [], _, _ => rfl
  | [], _ :: _, h, _ => by simp [Op.bytesLess] at h
  | _ :: _, [], _, h => by simp [Op.bytesLess] at h
  | x :: a, y :: b, h1, h2 => by
    simp only [Op.bytesLess, Bool.or_eq_false_iff, decide_eq_false_iff_not, Bool.and_eq_false_imp, beq_iff_eq] at h1 h2
    have h3 : x = y := by
      have h4 := h1.1
      have h5 := h2.1
      rw [UInt8.lt_iff_toNat_lt] at h4 h5
      exact UInt8.toNat_inj.1 (by omega)
    rw [h3, less_total (h1.2 h3) (h2.2 h3.symm)]
theorem pcmp_cases (a b : List UInt8) : (pcmp a b = -1 ∧ Op.bytesLess a b = true) ∨ (pcmp a b = 0 ∧ a = b) ∨ (pcmp a b = 1 ∧ Op.bytesLess b a = true) := by
  by_cases h1 : Op.bytesLess a b = true
  · exact .inl ⟨pcmp_lt h1, h1⟩
  · by_cases h2 : a = b
    · subst h2; exact .inr (.inl ⟨pcmp_eq a, rfl⟩)
    · right; right
      have h3 : Op.bytesLess b a = true := by
        cases h4 : Op.bytesLess b a with
        | true => rfl
        | false => exact absurd (less_total (by simpa using h1) h4) h2
      exact ⟨pcmp_gt h3, h3⟩
theorem less_trans {a b c : List UInt8} (h1 : Op.bytesLess a b = true) (h2 : Op.bytesLess b c = true) : Op.bytesLess a c = true := by
  rw [bytesLess_eq] at h1 h2 ⊢
  exact decide_eq_true (List.lt_trans (of_decide_eq_true h1) (of_decide_eq_true h2))

end Go.Xp
