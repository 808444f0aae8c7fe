/- Layer 13 (tree): plain laws of valid trees. -/
import Derived.Test.YtknimfbagbkjfaaDoorTree
import Derived.Test.YtknimfbagbkjfaaDoorSlc
set_option linter.unusedSimpArgs false
set_option linter.unusedVariables false
set_option linter.unusedSectionVars false
namespace Go.Xp
open Go.Proofs

theorem nod_app {l m : List Nod} {k : Nat} (h : k < l.length) : at_nod (l ++ m) k = at_nod l k := by
  simp [at_nod, List.getD_eq_getElem?_getD, List.getElem?_append_left h]
theorem nod_last (l : List Nod) (x : Nod) : at_nod (l ++ [x]) l.length = x := by
  simp [at_nod, List.getD_eq_getElem?_getD]
theorem nod_eq {l : List Nod} {k : Nat} (h : k < l.length) : at_nod l k = l[k] := by
  rw [at_nod, List.getD_eq_getElem?_getD, List.getElem?_eq_getElem h]; rfl
/-- A valid tree, in plain words. -/
structure TOk (l : List Nod) : Prop where
  one : ∀ k, k < l.length → tone (at_nod l k) = 0
  dup : ∀ j k, j < k → k < l.length → ¬ (at_nod l j).path = (at_nod l k).path
  par : ∀ k, k < l.length → fnd l (pparent (at_nod l k).path) l.length = true
  agr : ∀ j k, j < l.length → k < l.length → (at_nod l j).cls = (at_nod l k).cls → ¬ (at_nod l k).cls = 0 → (at_nod l j).mode = (at_nod l k).mode ∧ (at_nod l j).data = (at_nod l k).data
theorem TOk.first {l : List Nod} (h : TOk l) {i : Nat} (hi : i < l.length) : ¬ (at_nod l i).cls = 0 → (at_nod l (nfirst l (at_nod l i).cls)).mode = (at_nod l i).mode ∧ (at_nod l (nfirst l (at_nod l i).cls)).data = (at_nod l i).data := fun hc => by
  have h1 := nfirst_of hi
  exact h.agr _ _ (by omega) hi (nfirst_cls (by omega)) hc
/-! ### Another node at the end -/
section
variable {l : List Nod} {x : Nod}
end

/-! ### Paths and their parents -/
theorem last_spec : ∀ (l : List UInt8) (c : UInt8), (lastIdx l c = -1 ∧ c ∉ l) ∨ ∃ r : Nat, lastIdx l c = r ∧ r < l.length ∧ l = l.take r ++ [c] ++ l.drop (r + 1) ∧ c ∉ l.drop (r + 1)
  | [], c => .inl ⟨rfl, by simp⟩
  | a :: l, c => by
    rcases last_spec l c with ⟨h1, h2⟩ | ⟨r, h1, h2, h3, h4⟩
    · by_cases h : a = c
      · right
        exact ⟨0, by unfold lastIdx; rw [if_pos h1, if_pos h]; rfl, by simp, by simp [h], by simpa using h2⟩
      · left
        refine ⟨by unfold lastIdx; rw [if_pos h1, if_neg h], fun hm => ?_⟩
        rcases List.mem_cons.1 hm with h5 | h5
        · exact h h5.symm
        · exact h2 h5
    · right
      refine ⟨r + 1, by unfold lastIdx; rw [if_neg (by omega), h1]; rfl, by simpa using h2, ?_, by simpa using h4⟩
      simp only [List.take_succ_cons, List.drop_succ_cons, List.cons_append]
      rw [← h3]
theorem par_cases (q : List UInt8) : (pparent q = [] ∧ (47 : UInt8) ∉ q) ∨ ∃ s, q = pparent q ++ [47] ++ s ∧ (47 : UInt8) ∉ s := by
  rcases last_spec q 47 with ⟨h1, h2⟩ | ⟨r, h1, h2, h3, h4⟩
  · exact .inl ⟨by unfold pparent; rw [h1]; rfl, h2⟩
  · have hp : pparent q = q.take r := by unfold pparent; rw [h1]; rfl
    exact .inr ⟨q.drop (r + 1), by rw [hp]; exact h3, h4⟩
/-! ### A node less -/
section
variable {l : List Nod} {i : Nat}
def skip (i k : Nat) : Nat := if k < i then k else k + 1
end
end Go.Xp

/- Layer 13 (tree): the first node with a path; adding a regular file. -/
set_option linter.unusedSimpArgs false
set_option linter.unusedVariables false
set_option linter.unusedSectionVars false
namespace Go.Xp
open Go.Proofs

end Go.Xp

/- Layer 13 (tree): the program's check, Check and Find. -/
set_option linter.unusedSimpArgs false
set_option linter.unusedVariables false
set_option linter.unusedSectionVars false
namespace Go.Xp
open Go.Proofs

section
variable {l : List Nod} {j : Nat}
end

end Go.Xp
