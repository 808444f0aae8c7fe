/- Layer 8 (pathname): the laws' own text, for those that do not call Check. -/
import Derived.Test.YtknimfbagbkjfaaGreatDoorPath
import Derived.Test.YtknimfbagbkjfaaGreatDoorCstrLaw
set_option linter.unusedSimpArgs false
set_option linter.unusedVariables false
namespace Go.Xp
open Go.Proofs

theorem less_total : ∀ {a b : List UInt8}, Op.bytesLess a b = false → Op.bytesLess b a = false → a = b
  | [], [], _, _ => rfl
  | [], _ :: _, h, _ => by simp [Op.bytesLess] at h
  | _ :: _, [], _, h => by simp [Op.bytesLess] at h
  | x :: a, y :: b, h1, h2 => by
    simp only [Op.bytesLess, Bool.or_eq_false_iff, decide_eq_false_iff_not, Bool.and_eq_false_imp, beq_iff_eq] at h1 h2
    have h3 : x = y := by
      have h4 := h1.1
      have h5 := h2.1
      rw [UInt8.lt_iff_toNat_lt] at h4 h5
      exact UInt8.toNat_inj.1 (by omega)
    rw [h3, less_total (h1.2 h3) (h2.2 h3.symm)]
theorem pcmp_cases (a b : List UInt8) : (pcmp a b = -1 ∧ Op.bytesLess a b = true) ∨ (pcmp a b = 0 ∧ a = b) ∨ (pcmp a b = 1 ∧ Op.bytesLess b a = true) := by
  by_cases h1 : Op.bytesLess a b = true
  · exact .inl ⟨pcmp_lt h1, h1⟩
  · by_cases h2 : a = b
    · subst h2; exact .inr (.inl ⟨pcmp_eq a, rfl⟩)
    · right; right
      have h3 : Op.bytesLess b a = true := by
        cases h4 : Op.bytesLess b a with
        | true => rfl
        | false => exact absurd (less_total (by simpa using h1) h4) h2
      exact ⟨pcmp_gt h3, h3⟩
theorem less_trans {a b c : List UInt8} (h1 : Op.bytesLess a b = true) (h2 : Op.bytesLess b c = true) : Op.bytesLess a c = true := by
  rw [bytesLess_eq] at h1 h2 ⊢
  exact decide_eq_true (List.lt_trans (of_decide_eq_true h1) (of_decide_eq_true h2))

theorem split_ok {p : List UInt8} (h : sok p = true) : (p.length ≤ 100 ∧ spre p = [] ∧ snam p = p) ∨ (¬ p.length ≤ 100 ∧ ∃ k, fits8 p k ∧ (∀ i, i < k → ¬ fits8 p i) ∧ spre p = p.take k ∧ snam p = p.drop (k + 1)) := by
  by_cases hl : p.length ≤ 100
  · left; exact ⟨hl, by unfold spre; rw [if_pos hl], by unfold snam; rw [if_pos hl]⟩
  · right
    have hb : bad8 p = false := by unfold sok at h; simpa [hl] using h
    rcases slash8_first hl with ⟨h1, _⟩ | ⟨_, k, hk, hk2, hk3⟩
    · rw [hb] at h1; cases h1
    · refine ⟨hl, k, hk2, hk3, ?_, ?_⟩
      · unfold spre; rw [if_neg hl, hb, hk]; rfl
      · unfold snam; rw [if_neg hl, hb, hk]; rfl
theorem join_split {p : List UInt8} (h : sok p = true) : pjoin (spre p) (snam p) = p ∧ (snam p).length ≤ 100 ∧ (spre p).length ≤ 155 ∧ (spre p = [] ↔ p.length ≤ 100) := by
  rcases split_ok h with ⟨hl, h3, h4⟩ | ⟨hl, k, hk, hk2, h3, h4⟩
  · rw [h3, h4]; simp [pjoin, hl]
  · obtain ⟨k1, k2, k3, k4, k5⟩ := hk
    have hne : p.take k ≠ [] := by
      intro e
      have := congrArg List.length e
      simp only [List.length_take, List.length_nil] at this; omega
    rw [h3, h4]
    refine ⟨?_, by simp only [List.length_drop]; omega, by simp only [List.length_take]; omega, ⟨fun e => absurd e hne, fun e => absurd e hl⟩⟩
    unfold pjoin
    rw [if_neg hne]
    have h5 : p[k]'(by omega) = 47 := by rw [byt_eq (by omega)] at k5; exact UInt8.toNat_inj.1 (Int.ofNat_inj.1 k5)
    rw [← h5, List.append_assoc, List.singleton_append, List.getElem_cons_drop, List.take_append_drop]

end Go.Xp
