/- Layer 10 (fit): what a plan tells of its entry. -/
import Derived.Test.YtknimfbagbkjfaaGreatDoorFitR
import Derived.Test.YtknimfbagbkjfaaGreatDoorPathLaw
import Derived.Test.YtknimfbagbkjfaaGreatDoorDecP
set_option linter.unusedSimpArgs false
set_option linter.unusedVariables false
set_option linter.unusedSectionVars false
namespace Go.Xp
open Go.Proofs

/-- The value of the first record with the key. -/
def rget : List Rec → List UInt8 → Option (List UInt8)
  | [], _ => none
  | r :: l, k => if r.key = k then some r.val else rget l k
theorem rget_link (p tg : List UInt8) (z : Int) : rget (frecs p tg z) [108, 105, 110, 107, 112, 97, 116, 104] = if 100 < tg.length then some tg else none := by
  unfold frecs; split <;> split <;> split <;> simp [rget]
theorem rget_path (p tg : List UInt8) (z : Int) : rget (frecs p tg z) [112, 97, 116, 104] = if sok p = true then none else some p := by
  unfold frecs; split <;> split <;> split <;> simp [rget]
theorem rget_size (p tg : List UInt8) (z : Int) : rget (frecs p tg z) [115, 105, 122, 101] = if 8589934591 < z then some (Lib.decDigits z.toNat) else none := by
  unfold frecs; split <;> split <;> split <;> simp [rget]
theorem ftyp_inj {a b : Int} (ha : 0 ≤ a ∧ a ≤ 3) (hb : 0 ≤ b ∧ b ≤ 3) (h : ftyp a = ftyp b) : a = b := by
  obtain ⟨i, rfl⟩ := Int.eq_ofNat_of_zero_le ha.1
  obtain ⟨j, rfl⟩ := Int.eq_ofNat_of_zero_le hb.1
  have hi : i < 4 := by omega
  have hj : j < 4 := by omega
  have key : ∀ i j : Fin 4, byt [53, 48, 50, 49] i.val = byt [53, 48, 50, 49] j.val → i = j := by decide
  have := key ⟨i, hi⟩ ⟨j, hj⟩ h
  simp at this; omega
theorem path_of {p q : List UInt8} (h1 : snam p = snam q) (h2 : spre p = spre q) (h3 : (if sok p = true then none else some p) = if sok q = true then none else some q) : p = q := by
  by_cases hp : sok p = true
  · by_cases hq : sok q = true
    · rw [← (join_split hp).1, ← (join_split hq).1, h1, h2]
    · rw [if_pos hp, if_neg hq] at h3; cases h3
  · by_cases hq : sok q = true
    · rw [if_neg hp, if_pos hq] at h3; cases h3
    · rw [if_neg hp, if_neg hq] at h3; exact Option.some.inj h3
theorem link_of {a b : List UInt8} (h1 : (if 100 < a.length then ([] : List UInt8) else a) = if 100 < b.length then [] else b) (h3 : (if 100 < a.length then some a else none) = if 100 < b.length then some b else none) : a = b := by
  by_cases ha : 100 < a.length
  · by_cases hb : 100 < b.length
    · rw [if_pos ha, if_pos hb] at h3; exact Option.some.inj h3
    · rw [if_pos ha, if_neg hb] at h3; cases h3
  · by_cases hb : 100 < b.length
    · rw [if_neg ha, if_pos hb] at h3; cases h3
    · rw [if_neg ha, if_neg hb] at h1; exact h1
theorem size_of {a b : Int} (h1 : (if 8589934591 < a then (0 : Int) else a) = if 8589934591 < b then 0 else b) (h3 : (if 8589934591 < a then some (Lib.decDigits a.toNat) else none) = if 8589934591 < b then some (Lib.decDigits b.toNat) else none) : a = b := by
  by_cases ha : 8589934591 < a
  · by_cases hb : 8589934591 < b
    · rw [if_pos ha, if_pos hb] at h3; have := dec_inj (Option.some.inj h3); omega
    · rw [if_pos ha, if_neg hb] at h3; cases h3
  · by_cases hb : 8589934591 < b
    · rw [if_neg ha, if_pos hb] at h3; cases h3
    · rw [if_neg ha, if_neg hb] at h1; exact h1
abbrev hdEq (c k : Int) (p : List UInt8) (m : Int) (tg : List UInt8) (z c' k' : Int) (p' : List UInt8) (m' : Int) (tg' : List UInt8) (z' : Int) : Prop :=
  fT c k = fT c' k' ∧ fN c p = fN c' p' ∧ fP c p = fP c' p' ∧ fL c tg = fL c' tg' ∧ fM c m = fM c' m' ∧ fZ c z = fZ c' z'
theorem plan_inj {k m z k' m' z' : Int} {p tg p' tg' : List UInt8} (e : fcheck k p m tg z = 0) (e' : fcheck k' p' m' tg' z' = 0) (h : hdEq (fcheck k p m tg z) k p m tg z (fcheck k' p' m' tg' z') k' p' m' tg' z') (hr : fR (fcheck k p m tg z) p tg z = fR (fcheck k' p' m' tg' z') p' tg' z') :
    k = k' ∧ p = p' ∧ m = m' ∧ tg = tg' ∧ z = z' := by
  obtain ⟨h1, h2, h3, h4, h5, h6⟩ := h
  rw [e, e'] at h1 h2 h3 h4 h5 h6 hr
  simp only [fT, fN, fP, fL, fM, fZ, fR, if_pos] at h1 h2 h3 h4 h5 h6 hr
  refine ⟨ftyp_inj (fcheck_kind e) (fcheck_kind e') h1, path_of h2 h3 ?_, h5, link_of h4 ?_, size_of h6 ?_⟩
  · rw [← rget_path p tg z, ← rget_path p' tg' z', hr]
  · rw [← rget_link p tg z, ← rget_link p' tg' z', hr]
  · rw [← rget_size p tg z, ← rget_size p' tg' z', hr]

end Go.Xp
