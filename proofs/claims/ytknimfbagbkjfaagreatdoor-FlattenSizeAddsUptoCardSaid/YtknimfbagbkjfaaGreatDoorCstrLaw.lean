/- Layer 2 (cstring): the laws' own text. -/
import Derived.Test.YtknimfbagbkjfaaGreatDoorCstr
import Derived.Test.YtknimfbagbkjfaaGreatDoorRepeat
set_option linter.unusedSimpArgs false
set_option linter.unusedVariables false
namespace Go.Xp
open Go.Proofs




theorem cerr_zero {s : List UInt8} {w : Int} : cerr s w = 0 ↔ (1 ≤ w ∧ w ≤ 256) ∧ (0 : UInt8) ∉ s ∧ (s.length : Int) ≤ w := by
  unfold cerr
  constructor
  · intro h
    split at h
    · cases h
    · split at h
      · cases h
      · split at h
        · cases h
        · exact ⟨by omega, by assumption, by omega⟩
  · rintro ⟨h1, h2, h3⟩
    rw [if_neg (by omega), if_neg h2, if_neg (by omega)]
theorem perr_zero {b : List UInt8} : perr b = 0 ↔ (1 ≤ b.length ∧ b.length ≤ 256) ∧ (b.dropWhile (· != 0)).all (· == 0) = true := by
  unfold perr
  constructor
  · intro h
    split at h
    · cases h
    · split at h
      · exact ⟨by omega, by assumption⟩
      · cases h
  · rintro ⟨h1, h2⟩
    rw [if_neg (by omega), if_pos h2]
theorem pad_take {s : List UInt8} (k : Nat) (h0 : (0 : UInt8) ∉ s) : (s ++ List.replicate k 0).takeWhile (· != 0) = s ∧ (s ++ List.replicate k 0).dropWhile (· != 0) = List.replicate k 0 := by
  have h1 : ∀ x ∈ s, (x != 0) = true := fun x hx => by
    have : x ≠ 0 := fun h => h0 (h ▸ hx)
    simpa using this
  rw [List.takeWhile_append_of_pos h1, List.dropWhile_append_of_pos h1]
  cases k <;> simp [List.replicate_succ]
theorem all_zero_eq {l : List UInt8} (h : l.all (· == 0) = true) : l = List.replicate l.length 0 := by
  rw [List.eq_replicate_iff]
  exact ⟨rfl, fun x hx => by simpa using List.all_eq_true.1 h x hx⟩
/-- A field that parses is its text and NUL bytes behind it. -/
theorem parse_split {b : List UInt8} (h : perr b = 0) : (0 : UInt8) ∉ pstr b ∧ b = pstr b ++ List.replicate (b.length - (pstr b).length) 0 ∧ (pstr b).length ≤ b.length := by
  obtain ⟨h1, h2⟩ := perr_zero.1 h
  have hp : pstr b = b.takeWhile (· != 0) := by unfold pstr; rw [if_pos h]
  have h3 := List.takeWhile_append_dropWhile (p := (· != (0 : UInt8))) (l := b)
  have h4 := all_zero_eq h2
  have h5 : b.length = (b.takeWhile (· != 0)).length + (b.dropWhile (· != 0)).length := by
    rw [← List.length_append, h3]
  refine ⟨fun h0 => ?_, ?_, by rw [hp]; omega⟩
  · rw [hp] at h0
    have := List.all_eq_true.1 (List.all_takeWhile (p := (· != (0 : UInt8))) (l := b)) _ h0
    simp at this
  · rw [hp, show b.length - (b.takeWhile (· != 0)).length = (b.dropWhile (· != 0)).length by omega, ← h4, h3]
theorem parse_of {s : List UInt8} {k : Nat} (h0 : (0 : UInt8) ∉ s) (hl : 1 ≤ s.length + k ∧ s.length + k ≤ 256) : perr (s ++ List.replicate k 0) = 0 ∧ pstr (s ++ List.replicate k 0) = s := by
  obtain ⟨h1, h2⟩ := pad_take k h0
  have hp : perr (s ++ List.replicate k 0) = 0 := perr_zero.2 ⟨by simpa using hl, by rw [h2]; simp⟩
  exact ⟨hp, by unfold pstr; rw [if_pos hp, h1]⟩
theorem parse_format {s : List UInt8} {w : Int} (h : cerr s w = 0) : perr (cfmt s w) = 0 ∧ pstr (cfmt s w) = s ∧ ((cfmt s w).length : Int) = w := by
  obtain ⟨h1, h2, h3⟩ := cerr_zero.1 h
  have hf : cfmt s w = s ++ List.replicate (w.toNat - s.length) 0 := by unfold cfmt; rw [if_pos h]
  rw [hf]
  exact ⟨(parse_of h2 (by omega)).1, (parse_of h2 (by omega)).2, by simp; omega⟩
theorem format_parse {b : List UInt8} (h : perr b = 0) : cerr (pstr b) b.length = 0 ∧ cfmt (pstr b) b.length = b := by
  obtain ⟨h1, h2, h3⟩ := parse_split h
  have hw := (perr_zero.1 h).1
  have hc : cerr (pstr b) b.length = 0 := cerr_zero.2 ⟨by omega, h1, by omega⟩
  refine ⟨hc, ?_⟩
  unfold cfmt
  rw [if_pos hc]
  exact h2.symm


theorem parse_pad {b : List UInt8} {k : Nat} (h : perr b = 0) (hk : b.length + k ≤ 256) : perr (b ++ List.replicate k 0) = 0 ∧ pstr (b ++ List.replicate k 0) = pstr b := by
  obtain ⟨h1, h2, h3⟩ := parse_split h
  have h4 := (perr_zero.1 h).1
  have : b ++ List.replicate k 0 = pstr b ++ List.replicate (b.length - (pstr b).length + k) 0 := by
    conv => lhs; rw [h2]
    rw [List.append_assoc, List.replicate_append_replicate]
  rw [this]
  exact parse_of h1 (by omega)
theorem parse_odd {b : List UInt8} {c : UInt8} (h : perr b = 0) (hl : b.length + 1 ≤ 256) (hc : c ≠ 0) (hp : (pstr b).length < b.length) : perr (b ++ [c]) = 6 := by
  obtain ⟨h1, h2, h3⟩ := parse_split h
  have h4 := (perr_zero.1 h).1
  unfold perr
  rw [if_neg (by simp; omega), if_neg]
  intro h9
  have h5 : ∀ x ∈ pstr b, (x != 0) = true := fun x hx => by
    have : x ≠ 0 := fun h => h1 (h ▸ hx)
    simpa using this
  obtain ⟨k, hk⟩ : ∃ k, b.length - (pstr b).length = k + 1 := ⟨b.length - (pstr b).length - 1, by omega⟩
  rw [h2, List.append_assoc, List.dropWhile_append_of_pos h5, hk, List.replicate_succ] at h9
  simp at h9
  exact hc h9
theorem parse_more {b : List UInt8} {c : UInt8} (h : perr b = 0) (hl : b.length + 1 ≤ 256) (hc : c ≠ 0) (hp : ¬ (pstr b).length < b.length) : perr (b ++ [c]) = 0 ∧ pstr (b ++ [c]) = pstr b ++ [c] := by
  obtain ⟨h1, h2, h3⟩ := parse_split h
  have h4 : b = pstr b := by
    have h5 : b.length - (pstr b).length = 0 := by omega
    rw [h5] at h2; simpa using h2
  have h6 : (0 : UInt8) ∉ pstr b ++ [c] := by
    rw [List.mem_append]
    rintro (h | h)
    · exact h1 h
    · exact hc (List.mem_singleton.1 h).symm
  have := parse_of (k := 0) h6 (by simp; rw [← h4]; omega)
  simp only [List.replicate_zero, List.append_nil] at this
  rw [← h4] at this ⊢
  exact this
theorem u8_ne {c : Int} (h : 0 ≤ c ∧ c ≤ 255) (h0 : ¬ c = 0) : c.toNat.toUInt8 ≠ 0 := by
  intro h1
  have h2 := congrArg UInt8.toNat h1
  rw [show (c.toNat.toUInt8).toNat = c.toNat % 256 from rfl] at h2
  have : (0 : UInt8).toNat = 0 := rfl
  omega


theorem beq_of_iff {p q : Prop} [Decidable p] [Decidable q] (h : p ↔ q) : (decide p == decide q) = true := by
  by_cases hp : p
  · simp [hp, h.1 hp]
  · simp [hp, mt h.2 hp]
theorem bne_of_iff {p q : Prop} [Decidable p] [Decidable q] (h : p ↔ q) : (decide p != decide q) = false := by
  by_cases hp : p
  · simp [hp, h.1 hp]
  · simp [hp, mt h.2 hp]


theorem cfmt_wider {s : List UInt8} {v w : Int} (h1 : cerr s v = 0) (h2 : cerr s w = 0) (hvw : v ≤ w) : cfmt s w = cfmt s v ++ Lib.repeatL [0] (w - v).toNat := by
  have h3 := (cerr_zero.1 h1).2.2
  unfold cfmt
  rw [if_pos h1, if_pos h2, repeatL_one, List.append_assoc, List.replicate_append_replicate]
  congr 2; omega
theorem cfmt_length (s : List UInt8) (w : Int) : (cfmt s w).length ≤ 256 := by
  unfold cfmt
  split
  · rename_i h
    obtain ⟨h1, h2, h3⟩ := cerr_zero.1 h
    simp; omega
  · simp


end Go.Xp
