/- Layer 13 (tree): plain laws of valid trees. -/
import Derived.Test.YtknimfbagbkjfaaDoorTree
set_option linter.unusedSimpArgs false
set_option linter.unusedVariables false
set_option linter.unusedSectionVars false
namespace Go.Xp
open Go.Proofs

theorem nod_app {l m : List Nod} {k : Nat} (h : k < l.length) : at_nod (l ++ m) k = at_nod l k := by
  simp [at_nod, List.getD_eq_getElem?_getD, List.getElem?_append_left h]
theorem nod_last (l : List Nod) (x : Nod) : at_nod (l ++ [x]) l.length = x := by
  simp [at_nod, List.getD_eq_getElem?_getD]
theorem nod_eq {l : List Nod} {k : Nat} (h : k < l.length) : at_nod l k = l[k] := by
  rw [at_nod, List.getD_eq_getElem?_getD, List.getElem?_eq_getElem h]; rfl
/-- A valid tree, in plain words. -/
structure TOk (l : List Nod) : Prop where
  one : ∀ k, k < l.length → tone (at_nod l k) = 0
  dup : ∀ j k, j < k → k < l.length → ¬ (at_nod l j).path = (at_nod l k).path
  par : ∀ k, k < l.length → fnd l (pparent (at_nod l k).path) l.length = true
  agr : ∀ j k, j < l.length → k < l.length → (at_nod l j).cls = (at_nod l k).cls → ¬ (at_nod l k).cls = 0 → (at_nod l j).mode = (at_nod l k).mode ∧ (at_nod l j).data = (at_nod l k).data
theorem ttog_zero {l : List Nod} {i : Nat} (h : ttog l i = 0) : dupb l i = false ∧ fnd l (pparent (at_nod l i).path) l.length = true ∧ (¬ (at_nod l i).cls = 0 → (at_nod l (nfirst l (at_nod l i).cls)).mode = (at_nod l i).mode ∧ (at_nod l (nfirst l (at_nod l i).cls)).data = (at_nod l i).data) := by
  unfold ttog at h
  split at h
  · cases h
  · rename_i h1
    split at h
    · cases h
    · rename_i h2
      refine ⟨by simpa using h1, by simpa using h2, fun hc => ?_⟩
      rw [if_neg hc] at h
      split at h
      · cases h
      · rename_i h3
        exact ⟨Decidable.byContradiction (fun e => h3 (.inl e)), Decidable.byContradiction (fun e => h3 (.inr e))⟩
theorem ttog_ok {l : List Nod} {i : Nat} (h1 : dupb l i = false) (h2 : fnd l (pparent (at_nod l i).path) l.length = true) (h3 : ¬ (at_nod l i).cls = 0 → (at_nod l (nfirst l (at_nod l i).cls)).mode = (at_nod l i).mode ∧ (at_nod l (nfirst l (at_nod l i).cls)).data = (at_nod l i).data) : ttog l i = 0 := by
  unfold ttog
  rw [h1, h2, if_neg (by decide), if_neg (by decide)]
  by_cases hc : (at_nod l i).cls = 0
  · rw [if_pos hc]
  · rw [if_neg hc, if_neg (fun e => e.elim (fun e => e (h3 hc).1) (fun e => e (h3 hc).2))]
theorem tok_of {l : List Nod} (h : terr l = 0) : TOk l := by
  obtain ⟨h1, h2, -⟩ := terr_zero h
  refine ⟨h1, fun j k hj hk e => ?_, fun k hk => (ttog_zero (h2 k hk)).2.1, fun j k hj hk e hc => ?_⟩
  · have := (ttog_zero (h2 k hk)).1
    rw [dupb_iff.2 ⟨j, hj, e⟩] at this; cases this
  · have a := (ttog_zero (h2 k hk)).2.2 hc
    have b := (ttog_zero (h2 j hj)).2.2 (by rw [e]; exact hc)
    rw [e] at b
    exact ⟨b.1.symm.trans a.1, b.2.symm.trans a.2⟩
theorem TOk.first {l : List Nod} (h : TOk l) {i : Nat} (hi : i < l.length) : ¬ (at_nod l i).cls = 0 → (at_nod l (nfirst l (at_nod l i).cls)).mode = (at_nod l i).mode ∧ (at_nod l (nfirst l (at_nod l i).cls)).data = (at_nod l i).data := fun hc => by
  have h1 := nfirst_of hi
  exact h.agr _ _ (by omega) hi (nfirst_cls (by omega)) hc
theorem TOk.nodup {l : List Nod} (h : TOk l) {i : Nat} (hi : i < l.length) : dupb l i = false := by
  rw [← Bool.not_eq_true, dupb_iff]
  rintro ⟨k, hk, e⟩
  exact h.dup _ _ hk hi e
theorem TOk.tog {l : List Nod} (h : TOk l) {i : Nat} (hi : i < l.length) : ttog l i = 0 := ttog_ok (h.nodup hi) (h.par i hi) (h.first hi)
theorem TOk.res {l : List Nod} (h : TOk l) : tpos l = l.length ∧ terr l = 0 := tres0 h.one (fun k hk => h.tog hk)

/-! ### Another node at the end -/
section
variable {l : List Nod} {x : Nod}
end

/-! ### Paths and their parents -/
theorem last_spec : ∀ (l : List UInt8) (c : UInt8), (lastIdx l c = -1 ∧ c ∉ l) ∨ ∃ r : Nat, lastIdx l c = r ∧ r < l.length ∧ l = l.take r ++ [c] ++ l.drop (r + 1) ∧ c ∉ l.drop (r + 1)
  | [], c => .inl ⟨rfl, by simp⟩
  | a :: l, c => by
    rcases last_spec l c with ⟨h1, h2⟩ | ⟨r, h1, h2, h3, h4⟩
    · by_cases h : a = c
      · right
        exact ⟨0, by unfold lastIdx; rw [if_pos h1, if_pos h]; rfl, by simp, by simp [h], by simpa using h2⟩
      · left
        refine ⟨by unfold lastIdx; rw [if_pos h1, if_neg h], fun hm => ?_⟩
        rcases List.mem_cons.1 hm with h5 | h5
        · exact h h5.symm
        · exact h2 h5
    · right
      refine ⟨r + 1, by unfold lastIdx; rw [if_neg (by omega), h1]; rfl, by simpa using h2, ?_, by simpa using h4⟩
      simp only [List.take_succ_cons, List.drop_succ_cons, List.cons_append]
      rw [← h3]
theorem par_cases (q : List UInt8) : (pparent q = [] ∧ (47 : UInt8) ∉ q) ∨ ∃ s, q = pparent q ++ [47] ++ s ∧ (47 : UInt8) ∉ s := by
  rcases last_spec q 47 with ⟨h1, h2⟩ | ⟨r, h1, h2, h3, h4⟩
  · exact .inl ⟨by unfold pparent; rw [h1]; rfl, h2⟩
  · have hp : pparent q = q.take r := by unfold pparent; rw [h1]; rfl
    exact .inr ⟨q.drop (r + 1), by rw [hp]; exact h3, h4⟩
/-! ### A node less -/
section
variable {l : List Nod} {i : Nat}
def skip (i k : Nat) : Nat := if k < i then k else k + 1
end
end Go.Xp

/- Layer 13 (tree): the first node with a path; adding a regular file. -/
set_option linter.unusedSimpArgs false
set_option linter.unusedVariables false
set_option linter.unusedSectionVars false
namespace Go.Xp
open Go.Proofs

end Go.Xp
