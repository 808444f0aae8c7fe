/- Layer 13 (tree): what Check answers. -/
import Derived.Test.YtknimfbagbkjfaaDoorFitR
import Derived.Test.YtknimfbagbkjfaaDoorMapI
import Derived.Test.YtknimfbagbkjfaaDoorLaidN
set_option linter.unusedSimpArgs false
set_option linter.unusedVariables false
set_option linter.unusedSectionVars false
namespace Go.Xp
open Go.Proofs

def nsize (x : Nod) : Int := if x.kind = 1 then (x.data.length : Int) else 0
def nfc (x : Nod) : Int := fcheck x.kind x.path x.mode x.target (nsize x)
/-- What is wrong with a node by itself. -/
def tone (x : Nod) : Int :=
  if x.kind < 0 ∨ 2 < x.kind then 8 else if ¬ nfc x = 0 then nfc x else if ¬ x.kind = 1 ∧ 0 < x.data.length then 2 else if x.cls < 0 ∨ (¬ x.kind = 1 ∧ ¬ x.cls = 0) then 15 else 0
def dupb (l : List Nod) (i : Nat) : Bool := (List.range i).any fun k => decide ((at_nod l k).path = (at_nod l i).path)
def fnd (l : List Nod) (q : List UInt8) (n : Nat) : Bool := decide (q = []) || (List.range n).any fun k => decide ((at_nod l k).kind = 0 ∧ (at_nod l k).path = q)
/-- The index of the first node of a class. -/
def nfirst : List Nod → Int → Nat
  | [], _ => 0
  | x :: r, c => if x.cls = c then 0 else nfirst r c + 1
/-- What is wrong with a node in its list. -/
def ttog (l : List Nod) (i : Nat) : Int :=
  if dupb l i = true then 14 else if fnd l (pparent (at_nod l i).path) l.length = false then 13 else if (at_nod l i).cls = 0 then 0
  else if ¬ (at_nod l (nfirst l (at_nod l i).cls)).mode = (at_nod l i).mode ∨ ¬ (at_nod l (nfirst l (at_nod l i).cls)).data = (at_nod l i).data then 15 else 0
/-- The first index from i on, of n, where f is not 0. -/
def fbad (f : Nat → Int) : Nat → Nat → Nat
  | i, 0 => i
  | i, n + 1 => if f i = 0 then fbad f (i + 1) n else i
def bad1 (l : List Nod) : Nat := fbad (fun i => tone (at_nod l i)) 0 l.length
def bad2 (l : List Nod) : Nat := fbad (ttog l) 0 l.length
def tpos (l : List Nod) : Int := if bad1 l < l.length then (bad1 l : Int) else (bad2 l : Int)
def terr (l : List Nod) : Int := if bad1 l < l.length then tone (at_nod l (bad1 l)) else if bad2 l < l.length then ttog l (bad2 l) else 0

theorem dupb_iff {l : List Nod} {i : Nat} : dupb l i = true ↔ ∃ k, k < i ∧ (at_nod l k).path = (at_nod l i).path := by
  unfold dupb; rw [List.any_eq_true]
  constructor
  · rintro ⟨k, hk, h⟩; exact ⟨k, List.mem_range.1 hk, of_decide_eq_true h⟩
  · rintro ⟨k, hk, h⟩; exact ⟨k, List.mem_range.2 hk, decide_eq_true h⟩
theorem fnd_iff {l : List Nod} {q : List UInt8} {n : Nat} : fnd l q n = true ↔ (q = [] ∨ ∃ k, k < n ∧ (at_nod l k).kind = 0 ∧ (at_nod l k).path = q) := by
  unfold fnd; rw [Bool.or_eq_true, decide_eq_true_eq, List.any_eq_true]
  constructor
  · rintro (h | ⟨k, hk, h⟩)
    · exact .inl h
    · exact .inr ⟨k, List.mem_range.1 hk, of_decide_eq_true h⟩
  · rintro (h | ⟨k, hk, h⟩)
    · exact .inl h
    · exact .inr ⟨k, List.mem_range.2 hk, decide_eq_true h⟩
theorem fnd_succ (l : List Nod) (q : List UInt8) (n : Nat) : fnd l q (n + 1) = (fnd l q n || decide ((at_nod l n).kind = 0 ∧ (at_nod l n).path = q)) := by
  unfold fnd; rw [List.range_succ, List.any_append]; simp [Bool.or_assoc]
theorem nod_cons_succ (x : Nod) (r : List Nod) (k : Nat) : at_nod (x :: r) (k + 1) = at_nod r k := by simp [at_nod]
theorem nfirst_le : ∀ (l : List Nod) (c : Int), nfirst l c ≤ l.length
  | [], _ => Nat.le_refl _
  | x :: r, c => by
    have := nfirst_le r c
    unfold nfirst; split
    · omega
    · simp only [List.length_cons]; omega
theorem nfirst_ne : ∀ {l : List Nod} {c : Int} {k : Nat}, k < nfirst l c → ¬ (at_nod l k).cls = c
  | [], _, _, h => by cases h
  | x :: r, c, k, h => by
    unfold nfirst at h
    split at h
    · cases h
    · rename_i hx
      cases k with
      | zero => exact hx
      | succ k => rw [nod_cons_succ]; exact nfirst_ne (by omega)
theorem nfirst_cls : ∀ {l : List Nod} {c : Int}, nfirst l c < l.length → (at_nod l (nfirst l c)).cls = c
  | [], _, h => by cases h
  | x :: r, c, h => by
    unfold nfirst at h ⊢
    split
    · rename_i hx; exact hx
    · rename_i hx
      rw [if_neg hx] at h
      rw [nod_cons_succ]; exact nfirst_cls (by simpa using h)
theorem nfirst_eq {l : List Nod} {c : Int} {k : Nat} (hk : (at_nod l k).cls = c) (hn : ∀ j, j < k → ¬ (at_nod l j).cls = c) (hl : k < l.length) : nfirst l c = k := by
  have h1 := nfirst_le l c
  rcases Nat.lt_trichotomy (nfirst l c) k with h | h | h
  · exact absurd (nfirst_cls (by omega)) (hn _ h)
  · exact h
  · exact absurd hk (nfirst_ne h)
theorem nfirst_of {l : List Nod} {i : Nat} (hi : i < l.length) : nfirst l (at_nod l i).cls ≤ i := by
  apply Decidable.byContradiction; intro h
  exact nfirst_ne (l := l) (c := (at_nod l i).cls) (k := i) (by omega) rfl

theorem fbad_spec (f : Nat → Int) : ∀ (n i : Nat), i ≤ fbad f i n ∧ fbad f i n ≤ i + n ∧ (∀ k, i ≤ k → k < fbad f i n → f k = 0) ∧ (fbad f i n < i + n → ¬ f (fbad f i n) = 0)
  | 0, i => ⟨Nat.le_refl _, Nat.le_refl _, fun k h1 h2 => absurd h2 (by unfold fbad; omega), fun h => absurd h (by unfold fbad; omega)⟩
  | n + 1, i => by
    unfold fbad
    by_cases h : f i = 0
    · rw [if_pos h]
      obtain ⟨h1, h2, h3, h4⟩ := fbad_spec f n (i + 1)
      refine ⟨by omega, by omega, fun k hk hk2 => ?_, fun h5 => h4 (by omega)⟩
      rcases Nat.eq_or_lt_of_le hk with rfl | hk
      · exact h
      · exact h3 k hk hk2
    · rw [if_neg h]
      exact ⟨Nat.le_refl _, by omega, fun k h1 h2 => by omega, fun _ => h⟩
theorem fbad_at {f : Nat → Int} {n i : Nat} (h0 : ∀ k, k < i → f k = 0) (hi : i < n) (hf : ¬ f i = 0) : fbad f 0 n = i := by
  obtain ⟨h1, h2, h3, h4⟩ := fbad_spec f n 0
  rcases Nat.lt_trichotomy (fbad f 0 n) i with h | h | h
  · exact absurd (h0 _ h) (h4 (by omega))
  · exact h
  · exact absurd (h3 i (by omega) h) hf
theorem fbad_end {f : Nat → Int} {n : Nat} (h0 : ∀ k, k < n → f k = 0) : fbad f 0 n = n := by
  obtain ⟨h1, h2, h3, h4⟩ := fbad_spec f n 0
  rcases Nat.lt_or_ge (fbad f 0 n) n with h | h
  · exact absurd (h0 _ h) (h4 (by omega))
  · omega
section
variable {l : List Nod} {i : Nat}
theorem tres1 (h0 : ∀ k, k < i → tone (at_nod l k) = 0) (hi : i < l.length) (hf : ¬ tone (at_nod l i) = 0) : tpos l = i ∧ terr l = tone (at_nod l i) := by
  have e : bad1 l = i := fbad_at h0 hi hf
  unfold tpos terr
  rw [e, if_pos hi, if_pos hi]; exact ⟨rfl, rfl⟩
theorem tres2 (h1 : ∀ k, k < l.length → tone (at_nod l k) = 0) (h0 : ∀ k, k < i → ttog l k = 0) (hi : i < l.length) (hf : ¬ ttog l i = 0) : tpos l = i ∧ terr l = ttog l i := by
  have e1 : bad1 l = l.length := fbad_end h1
  have e : bad2 l = i := fbad_at h0 hi hf
  unfold tpos terr
  rw [e1, e, if_neg (Nat.lt_irrefl _), if_neg (Nat.lt_irrefl _), if_pos hi]; exact ⟨rfl, rfl⟩
theorem tres0 (h1 : ∀ k, k < l.length → tone (at_nod l k) = 0) (h0 : ∀ k, k < l.length → ttog l k = 0) : tpos l = l.length ∧ terr l = 0 := by
  have e1 : bad1 l = l.length := fbad_end h1
  have e : bad2 l = l.length := fbad_end h0
  unfold tpos terr
  rw [e1, e, if_neg (Nat.lt_irrefl _), if_neg (Nat.lt_irrefl _), if_neg (Nat.lt_irrefl _)]; exact ⟨rfl, rfl⟩
/-- No fault at all. -/
theorem terr_zero (h : terr l = 0) : (∀ k, k < l.length → tone (at_nod l k) = 0) ∧ (∀ k, k < l.length → ttog l k = 0) ∧ tpos l = l.length := by
  obtain ⟨a1, a2, a3, a4⟩ := fbad_spec (fun i => tone (at_nod l i)) l.length 0
  obtain ⟨b1, b2, b3, b4⟩ := fbad_spec (ttog l) l.length 0
  change _ ≤ bad1 l at a1; change bad1 l ≤ _ at a2; change ∀ k, 0 ≤ k → k < bad1 l → _ at a3; change bad1 l < _ → ¬ tone (at_nod l (bad1 l)) = 0 at a4
  change _ ≤ bad2 l at b1; change bad2 l ≤ _ at b2; change ∀ k, 0 ≤ k → k < bad2 l → _ at b3; change bad2 l < _ → ¬ ttog l (bad2 l) = 0 at b4
  unfold terr at h
  by_cases h1 : bad1 l < l.length
  · rw [if_pos h1] at h; exact absurd h (a4 (by omega))
  · rw [if_neg h1] at h
    by_cases h2 : bad2 l < l.length
    · rw [if_pos h2] at h; exact absurd h (b4 (by omega))
    · refine ⟨fun k hk => a3 k (by omega) (by omega), fun k hk => b3 k (by omega) (by omega), ?_⟩
      unfold tpos; rw [if_neg h1]; omega
end
/-! ### What the maps hold -/
def dirk (l : List Nod) : Nat → List (List UInt8)
  | 0 => [[]]
  | i + 1 => if (at_nod l i).kind = 0 then kins (dirk l i) (at_nod l i).path else dirk l i
theorem mem_dirk {l : List Nod} {q : List UInt8} : ∀ {i : Nat}, q ∈ dirk l i ↔ (q = [] ∨ ∃ k, k < i ∧ (at_nod l k).kind = 0 ∧ (at_nod l k).path = q)
  | 0 => by simp [dirk]
  | i + 1 => by
    have ih := mem_dirk (l := l) (q := q) (i := i)
    unfold dirk
    split
    · rename_i h
      rw [mem_kins, ih]
      constructor
      · rintro ((h1 | ⟨k, h1, h2⟩) | h1)
        · exact .inl h1
        · exact .inr ⟨k, by omega, h2⟩
        · exact .inr ⟨i, by omega, h, h1.symm⟩
      · rintro (h1 | ⟨k, h1, h2, h3⟩)
        · exact .inl (.inl h1)
        · rcases Nat.lt_or_ge k i with h4 | h4
          · exact .inl (.inr ⟨k, h4, h2, h3⟩)
          · obtain rfl : k = i := by omega
            exact .inr h3.symm
    · rename_i h
      rw [ih]
      constructor
      · rintro (h1 | ⟨k, h1, h2⟩)
        · exact .inl h1
        · exact .inr ⟨k, by omega, h2⟩
      · rintro (h1 | ⟨k, h1, h2, h3⟩)
        · exact .inl h1
        · rcases Nat.lt_or_ge k i with h4 | h4
          · exact .inr ⟨k, h4, h2, h3⟩
          · obtain rfl : k = i := by omega
            exact absurd h2 h
end Go.Xp

/- Layer 13 (tree): plain laws of valid trees. -/
set_option linter.unusedSimpArgs false
set_option linter.unusedVariables false
set_option linter.unusedSectionVars false
namespace Go.Xp
open Go.Proofs

theorem nod_app {l m : List Nod} {k : Nat} (h : k < l.length) : at_nod (l ++ m) k = at_nod l k := by
  simp [at_nod, List.getD_eq_getElem?_getD, List.getElem?_append_left h]
theorem nod_last (l : List Nod) (x : Nod) : at_nod (l ++ [x]) l.length = x := by
  simp [at_nod, List.getD_eq_getElem?_getD]
theorem nod_eq {l : List Nod} {k : Nat} (h : k < l.length) : at_nod l k = l[k] := by
  rw [at_nod, List.getD_eq_getElem?_getD, List.getElem?_eq_getElem h]; rfl
/-- A valid tree, in plain words. -/
structure TOk (l : List Nod) : Prop where
  one : ∀ k, k < l.length → tone (at_nod l k) = 0
  dup : ∀ j k, j < k → k < l.length → ¬ (at_nod l j).path = (at_nod l k).path
  par : ∀ k, k < l.length → fnd l (pparent (at_nod l k).path) l.length = true
  agr : ∀ j k, j < l.length → k < l.length → (at_nod l j).cls = (at_nod l k).cls → ¬ (at_nod l k).cls = 0 → (at_nod l j).mode = (at_nod l k).mode ∧ (at_nod l j).data = (at_nod l k).data
theorem ttog_zero {l : List Nod} {i : Nat} (h : ttog l i = 0) : dupb l i = false ∧ fnd l (pparent (at_nod l i).path) l.length = true ∧ (¬ (at_nod l i).cls = 0 → (at_nod l (nfirst l (at_nod l i).cls)).mode = (at_nod l i).mode ∧ (at_nod l (nfirst l (at_nod l i).cls)).data = (at_nod l i).data) := by
  unfold ttog at h
  split at h
  · cases h
  · rename_i h1
    split at h
    · cases h
    · rename_i h2
      refine ⟨by simpa using h1, by simpa using h2, fun hc => ?_⟩
      rw [if_neg hc] at h
      split at h
      · cases h
      · rename_i h3
        exact ⟨Decidable.byContradiction (fun e => h3 (.inl e)), Decidable.byContradiction (fun e => h3 (.inr e))⟩
theorem ttog_ok {l : List Nod} {i : Nat} (h1 : dupb l i = false) (h2 : fnd l (pparent (at_nod l i).path) l.length = true) (h3 : ¬ (at_nod l i).cls = 0 → (at_nod l (nfirst l (at_nod l i).cls)).mode = (at_nod l i).mode ∧ (at_nod l (nfirst l (at_nod l i).cls)).data = (at_nod l i).data) : ttog l i = 0 := by
  unfold ttog
  rw [h1, h2, if_neg (by decide), if_neg (by decide)]
  by_cases hc : (at_nod l i).cls = 0
  · rw [if_pos hc]
  · rw [if_neg hc, if_neg (fun e => e.elim (fun e => e (h3 hc).1) (fun e => e (h3 hc).2))]
theorem tok_of {l : List Nod} (h : terr l = 0) : TOk l := by
  obtain ⟨h1, h2, -⟩ := terr_zero h
  refine ⟨h1, fun j k hj hk e => ?_, fun k hk => (ttog_zero (h2 k hk)).2.1, fun j k hj hk e hc => ?_⟩
  · have := (ttog_zero (h2 k hk)).1
    rw [dupb_iff.2 ⟨j, hj, e⟩] at this; cases this
  · have a := (ttog_zero (h2 k hk)).2.2 hc
    have b := (ttog_zero (h2 j hj)).2.2 (by rw [e]; exact hc)
    rw [e] at b
    exact ⟨b.1.symm.trans a.1, b.2.symm.trans a.2⟩
theorem TOk.first {l : List Nod} (h : TOk l) {i : Nat} (hi : i < l.length) : ¬ (at_nod l i).cls = 0 → (at_nod l (nfirst l (at_nod l i).cls)).mode = (at_nod l i).mode ∧ (at_nod l (nfirst l (at_nod l i).cls)).data = (at_nod l i).data := fun hc => by
  have h1 := nfirst_of hi
  exact h.agr _ _ (by omega) hi (nfirst_cls (by omega)) hc
theorem TOk.nodup {l : List Nod} (h : TOk l) {i : Nat} (hi : i < l.length) : dupb l i = false := by
  rw [← Bool.not_eq_true, dupb_iff]
  rintro ⟨k, hk, e⟩
  exact h.dup _ _ hk hi e
theorem TOk.tog {l : List Nod} (h : TOk l) {i : Nat} (hi : i < l.length) : ttog l i = 0 := ttog_ok (h.nodup hi) (h.par i hi) (h.first hi)
theorem TOk.res {l : List Nod} (h : TOk l) : tpos l = l.length ∧ terr l = 0 := tres0 h.one (fun k hk => h.tog hk)

/-! ### Another node at the end -/
section
variable {l : List Nod} {x : Nod}
end

/-! ### Paths and their parents -/
theorem last_spec : ∀ (l : List UInt8) (c : UInt8), (lastIdx l c = -1 ∧ c ∉ l) ∨ ∃ r : Nat, lastIdx l c = r ∧ r < l.length ∧ l = l.take r ++ [c] ++ l.drop (r + 1) ∧ c ∉ l.drop (r + 1)
  | [], c => .inl ⟨rfl, by simp⟩
  | a :: l, c => by
    rcases last_spec l c with ⟨h1, h2⟩ | ⟨r, h1, h2, h3, h4⟩
    · by_cases h : a = c
      · right
        exact ⟨0, by unfold lastIdx; rw [if_pos h1, if_pos h]; rfl, by simp, by simp [h], by simpa using h2⟩
      · left
        refine ⟨by unfold lastIdx; rw [if_pos h1, if_neg h], fun hm => ?_⟩
        rcases List.mem_cons.1 hm with h5 | h5
        · exact h h5.symm
        · exact h2 h5
    · right
      refine ⟨r + 1, by unfold lastIdx; rw [if_neg (by omega), h1]; rfl, by simpa using h2, ?_, by simpa using h4⟩
      simp only [List.take_succ_cons, List.drop_succ_cons, List.cons_append]
      rw [← h3]
theorem par_cases (q : List UInt8) : (pparent q = [] ∧ (47 : UInt8) ∉ q) ∨ ∃ s, q = pparent q ++ [47] ++ s ∧ (47 : UInt8) ∉ s := by
  rcases last_spec q 47 with ⟨h1, h2⟩ | ⟨r, h1, h2, h3, h4⟩
  · exact .inl ⟨by unfold pparent; rw [h1]; rfl, h2⟩
  · have hp : pparent q = q.take r := by unfold pparent; rw [h1]; rfl
    exact .inr ⟨q.drop (r + 1), by rw [hp]; exact h3, h4⟩
/-! ### A node less -/
section
variable {l : List Nod} {i : Nat}
def skip (i k : Nat) : Nat := if k < i then k else k + 1
end
end Go.Xp

/- Layer 13 (tree): the first node with a path; adding a regular file. -/
set_option linter.unusedSimpArgs false
set_option linter.unusedVariables false
set_option linter.unusedSectionVars false
namespace Go.Xp
open Go.Proofs

end Go.Xp

/- Layer 13 (tree): the program's check, Check and Find. -/
set_option linter.unusedSimpArgs false
set_option linter.unusedVariables false
set_option linter.unusedSectionVars false
namespace Go.Xp
open Go.Proofs

theorem nod_mem {l : List Nod} {k : Nat} (h : k < l.length) : at_nod l k ∈ l := by rw [nod_eq h]; exact List.getElem_mem h
theorem below_succ {f : Nat → Int} {i : Nat} (h0 : ∀ k, k < i → f k = 0) (h : f i = 0) : ∀ k, k < i + 1 → f k = 0 := fun k hk => by
  rcases Nat.lt_or_ge k i with h1 | h1
  · exact h0 k h1
  · obtain rfl : k = i := by omega
    exact h
section
variable {l : List Nod} {j : Nat}
end

end Go.Xp
