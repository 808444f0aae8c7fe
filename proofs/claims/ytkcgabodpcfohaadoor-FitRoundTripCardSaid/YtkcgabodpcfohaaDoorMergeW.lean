/- Layer 10 (fit): how large a plan's parts are. -/
import Derived.Test.YtkcgabodpcfohaaDoorMergeL
import Derived.Test.YtkcgabodpcfohaaDoorMergeQ
set_option linter.unusedSimpArgs false
set_option linter.unusedVariables false
set_option linter.unusedSectionVars false
namespace Go.Xp
open Go.Proofs

theorem nDigits_le_succ : ∀ u : Nat, Lib.nDigits u ≤ u + 1 := by
  intro u
  induction u using Nat.strongRecOn with
  | ind u ih =>
    rcases Nat.lt_or_ge u 10 with h | h
    · rw [Lib.nDigits_small h]; omega
    · rw [Lib.nDigits_big (by omega)]; have := ih (u / 10) (by omega); omega
theorem fT_range (c k : Int) : 0 ≤ fT c k ∧ fT c k ≤ 255 := by
  unfold fT
  split
  · exact byt_lt _ _
  · omega
theorem fNP_len {c : Int} {p : List UInt8} (hp : p.length ≤ 70000) : (fP c p).length + 1 + (fN c p).length ≤ 140737488355328 := by
  have := split_lens p
  unfold fP fN
  split
  · omega
  · simp
theorem fL_len {c : Int} {tg : List UInt8} (ht : tg.length ≤ 70000) : (fL c tg).length ≤ 140737488355328 := by
  unfold fL; split
  · split
    · simp
    · omega
  · simp
theorem fZ_range {k m z : Int} {p tg : List UInt8} (e : fcheck k p m tg z = 0) : -9223372036854775808 ≤ fZ (fcheck k p m tg z) z ∧ fZ (fcheck k p m tg z) z ≤ 9223372036854775807 := by
  have := fcheck_size e
  unfold fZ; split
  · split <;> omega
  · omega
theorem fR_good {k m z : Int} {p tg : List UInt8} (e : fcheck k p m tg z = 0) (hp : p.length ≤ 70000) (ht : tg.length ≤ 70000) : ∀ r ∈ fR (fcheck k p m tg z) p tg z, r.key.length ≤ 140737488355328 ∧ r.val.length ≤ 140737488355328 := by
  have hz := fcheck_size e
  have hn := nDigits_le_succ z.toNat
  rw [fR, if_pos e]
  unfold frecs
  intro r hr
  simp only [List.mem_append] at hr
  rcases hr with hr | hr | hr
  · split at hr
    · rw [List.mem_singleton.1 hr]; exact ⟨by show 8 ≤ _; decide, by show tg.length ≤ _; omega⟩
    · cases hr
  · split at hr
    · cases hr
    · rw [List.mem_singleton.1 hr]; exact ⟨by show 4 ≤ _; decide, by show p.length ≤ _; omega⟩
  · split at hr
    · rw [List.mem_singleton.1 hr]; exact ⟨by show 4 ≤ _; decide, by show (Lib.decDigits z.toNat).length ≤ _; rw [Lib.decDigits_length]; omega⟩
    · cases hr
end Go.Xp
