/- Layer 13 (tree): the first node with a path; adding a regular file. -/
import Derived.Test.YtolfadbbhocikaaDoorTreeL
set_option linter.unusedSimpArgs false
set_option linter.unusedVariables false
set_option linter.unusedSectionVars false
namespace Go.Xp
open Go.Proofs

/-- The index of the first node with a path. -/
def pfirst : List Nod → List UInt8 → Nat
  | [], _ => 0
  | x :: r, q => if x.path = q then 0 else pfirst r q + 1
theorem pfirst_le : ∀ (l : List Nod) (q : List UInt8), pfirst l q ≤ l.length
  | [], _ => Nat.le_refl _
  | x :: r, q => by
    have := pfirst_le r q
    unfold pfirst; split
    · omega
    · simp only [List.length_cons]; omega
theorem pfirst_ne : ∀ {l : List Nod} {q : List UInt8} {k : Nat}, k < pfirst l q → ¬ (at_nod l k).path = q
  | [], _, _, h => by cases h
  | x :: r, q, k, h => by
    unfold pfirst at h
    split at h
    · cases h
    · rename_i hx
      cases k with
      | zero => exact hx
      | succ k => rw [nod_cons_succ]; exact pfirst_ne (by omega)
theorem pfirst_path : ∀ {l : List Nod} {q : List UInt8}, pfirst l q < l.length → (at_nod l (pfirst l q)).path = q
  | [], _, h => by cases h
  | x :: r, q, h => by
    unfold pfirst at h ⊢
    split
    · rename_i hx; exact hx
    · rename_i hx
      rw [if_neg hx] at h
      rw [nod_cons_succ]; exact pfirst_path (by simpa using h)
theorem pfirst_eq {l : List Nod} {q : List UInt8} {k : Nat} (hk : (at_nod l k).path = q) (hn : ∀ j, j < k → ¬ (at_nod l j).path = q) (hl : k < l.length) : pfirst l q = k := by
  have h1 := pfirst_le l q
  rcases Nat.lt_trichotomy (pfirst l q) k with h | h | h
  · exact absurd (pfirst_path (by omega)) (hn _ h)
  · exact h
  · exact absurd hk (pfirst_ne h)
theorem pfirst_end {l : List Nod} {q : List UInt8} (hn : ∀ j, j < l.length → ¬ (at_nod l j).path = q) : pfirst l q = l.length := by
  have h1 := pfirst_le l q
  rcases Nat.lt_or_ge (pfirst l q) l.length with h | h
  · exact absurd (pfirst_path h) (hn _ h)
  · omega
theorem pfirst_iff {l : List Nod} {q : List UInt8} : pfirst l q < l.length ↔ ∃ k, k < l.length ∧ (at_nod l k).path = q := by
  constructor
  · intro h; exact ⟨_, h, pfirst_path h⟩
  · rintro ⟨k, hk, e⟩
    apply Decidable.byContradiction; intro h
    exact pfirst_ne (l := l) (q := q) (k := k) (by omega) e
/-- The first node with a path, or the zero node. -/
def fnode (l : List Nod) (q : List UInt8) : Nod := if pfirst l q < l.length then at_nod l (pfirst l q) else nodS.d
def xnod (p : List UInt8) : Nod := ⟨1, p, 0, [], .slice none 0 0, [], 0⟩
theorem tone_xnod (p : List UInt8) : tone (xnod p) = pcheck p := by
  have hn : nfc (xnod p) = pcheck p := by
    show fcheck 1 p 0 [] 0 = pcheck p
    have h2 : ftarget 1 [] = 0 := by decide +kernel
    unfold fcheck
    rw [if_neg (by omega)]
    by_cases h : pcheck p = 0
    · rw [if_neg (by simpa using h), if_neg (by omega), if_neg (by rw [h2]; simp), h]; decide
    · rw [if_pos h]
  unfold tone
  rw [hn, if_neg (show ¬ ((xnod p).kind < 0 ∨ 2 < (xnod p).kind) by show ¬ ((1 : Int) < 0 ∨ (2 : Int) < 1); omega)]
  by_cases h : pcheck p = 0
  · rw [if_neg (by simpa using h), h, if_neg (fun e => e.1 rfl), if_neg (fun e => e.elim (fun e => absurd (show (0 : Int) < 0 from e) (by decide)) (fun e => e.1 rfl))]
  · rw [if_pos h]
def wadd (l : List Nod) (p : List UInt8) : Int :=
  if ¬ pcheck p = 0 then pcheck p else if pfirst l p < l.length then 14 else if ¬ pparent p = [] ∧ (¬ pfirst l (pparent p) < l.length ∨ ¬ (fnode l (pparent p)).kind = 0) then 13 else 0
theorem TOk.dir {l : List Nod} (h : TOk l) (q : List UInt8) : fnd l q l.length = true ↔ (q = [] ∨ (pfirst l q < l.length ∧ (fnode l q).kind = 0)) := by
  rw [fnd_iff]
  constructor
  · rintro (e | ⟨k, hk, e1, e2⟩)
    · exact .inl e
    · have h1 : pfirst l q = k := by
        refine pfirst_eq e2 (fun j hj e => h.dup _ _ hj hk (e.trans e2.symm)) hk
      exact .inr ⟨by omega, by unfold fnode; rw [h1, if_pos hk]; exact e1⟩
  · rintro (e | ⟨h1, h2⟩)
    · exact .inl e
    · unfold fnode at h2
      rw [if_pos h1] at h2
      exact .inr ⟨_, h1, h2, pfirst_path h1⟩
theorem add_res {l : List Nod} (h : TOk l) (p : List UInt8) : terr (l ++ [xnod p]) = wadd l p ∧ tpos (l ++ [xnod p]) = if wadd l p = 0 then (l.length : Int) + 1 else l.length := by
  have ht := tone_xnod p
  unfold wadd
  by_cases h1 : pcheck p = 0
  · rw [if_neg (by simpa using h1)]
    have ht0 : tone (xnod p) = 0 := ht.trans h1
    have hlast := tog_last (l := l) (x := xnod p)
    change _ = if (∃ k, k < l.length ∧ (at_nod l k).path = p) then 14 else if fnd (l ++ [xnod p]) (pparent p) (l.length + 1) = false then 13 else if (0 : Int) = 0 then 0 else _ at hlast
    rw [if_pos (c := (0 : Int) = 0) rfl] at hlast
    by_cases h2 : pfirst l p < l.length
    · rw [if_pos h2]
      rw [if_pos (pfirst_iff.1 h2)] at hlast
      have := app_res2 h ht0 (by rw [hlast]; decide)
      rw [hlast] at this
      rw [if_neg (by decide)]; exact ⟨this.2, this.1⟩
    · rw [if_neg h2]
      rw [if_neg (fun e => h2 (pfirst_iff.2 e))] at hlast
      have hf : fnd (l ++ [xnod p]) (pparent p) (l.length + 1) = fnd l (pparent p) l.length := by
        rw [fnd_succ, nod_last]
        have : decide ((xnod p).kind = 0 ∧ (xnod p).path = pparent p) = false := by
          apply decide_eq_false; rintro ⟨e, -⟩; exact absurd (show (1 : Int) = 0 from e) (by decide)
        rw [this, Bool.or_false, Bool.eq_iff_iff, fnd_iff, fnd_iff]
        constructor
        · rintro (e | ⟨k, hk, e⟩)
          · exact .inl e
          · rw [nod_app hk] at e; exact .inr ⟨k, hk, e⟩
        · rintro (e | ⟨k, hk, e⟩)
          · exact .inl e
          · exact .inr ⟨k, hk, by rw [nod_app hk]; exact e⟩
      rw [hf] at hlast
      have hd := h.dir (pparent p)
      by_cases h3 : ¬ pparent p = [] ∧ (¬ pfirst l (pparent p) < l.length ∨ ¬ (fnode l (pparent p)).kind = 0)
      · rw [if_pos h3]
        have h4 : fnd l (pparent p) l.length = false := by
          rw [← Bool.not_eq_true, hd]
          rintro (e | ⟨e1, e2⟩)
          · exact h3.1 e
          · exact h3.2.elim (fun e => e e1) (fun e => e e2)
        rw [if_pos h4] at hlast
        have := app_res2 h ht0 (by rw [hlast]; decide)
        rw [hlast] at this
        rw [if_neg (by decide)]; exact ⟨this.2, this.1⟩
      · rw [if_neg h3]
        have h4 : ¬ fnd l (pparent p) l.length = false := by
          rw [Bool.not_eq_false, hd]
          by_cases e : pparent p = []
          · exact .inl e
          · right
            exact ⟨Decidable.byContradiction (fun e1 => h3 ⟨e, .inl e1⟩), Decidable.byContradiction (fun e1 => h3 ⟨e, .inr e1⟩)⟩
        rw [if_neg h4] at hlast
        have := app_res0 h ht0 hlast
        rw [if_pos rfl]; exact ⟨this.2, this.1⟩
  · rw [if_pos h1]
    have := app_res1 h (x := xnod p) (by rw [ht]; exact h1)
    rw [ht] at this
    rw [if_neg h1]; exact ⟨this.2, this.1⟩
end Go.Xp
