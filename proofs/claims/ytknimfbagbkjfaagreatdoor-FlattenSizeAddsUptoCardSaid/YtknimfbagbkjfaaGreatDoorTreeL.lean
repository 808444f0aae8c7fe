/- Layer 13 (tree): plain laws of valid trees. -/
import Derived.Test.YtknimfbagbkjfaaGreatDoorTree
set_option linter.unusedSimpArgs false
set_option linter.unusedVariables false
set_option linter.unusedSectionVars false
namespace Go.Xp
open Go.Proofs

theorem nod_app {l m : List Nod} {k : Nat} (h : k < l.length) : at_nod (l ++ m) k = at_nod l k := by
  simp [at_nod, List.getD_eq_getElem?_getD, List.getElem?_append_left h]
theorem nod_last (l : List Nod) (x : Nod) : at_nod (l ++ [x]) l.length = x := by
  simp [at_nod, List.getD_eq_getElem?_getD]
theorem nod_eq {l : List Nod} {k : Nat} (h : k < l.length) : at_nod l k = l[k] := by
  rw [at_nod, List.getD_eq_getElem?_getD, List.getElem?_eq_getElem h]; rfl
/-- A valid tree, in plain words. -/
structure TOk (l : List Nod) : Prop where
  one : ∀ k, k < l.length → tone (at_nod l k) = 0
  dup : ∀ j k, j < k → k < l.length → ¬ (at_nod l j).path = (at_nod l k).path
  par : ∀ k, k < l.length → fnd l (pparent (at_nod l k).path) l.length = true
  agr : ∀ j k, j < l.length → k < l.length → (at_nod l j).cls = (at_nod l k).cls → ¬ (at_nod l k).cls = 0 → (at_nod l j).mode = (at_nod l k).mode ∧ (at_nod l j).data = (at_nod l k).data
theorem ttog_zero {l : List Nod} {i : Nat} (h : ttog l i = 0) : dupb l i = false ∧ fnd l (pparent (at_nod l i).path) l.length = true ∧ (¬ (at_nod l i).cls = 0 → (at_nod l (nfirst l (at_nod l i).cls)).mode = (at_nod l i).mode ∧ (at_nod l (nfirst l (at_nod l i).cls)).data = (at_nod l i).data) := by
  unfold ttog at h
  split at h
  · cases h
  · rename_i h1
    split at h
    · cases h
    · rename_i h2
      refine ⟨by simpa using h1, by simpa using h2, fun hc => ?_⟩
      rw [if_neg hc] at h
      split at h
      · cases h
      · rename_i h3
        exact ⟨Decidable.byContradiction (fun e => h3 (.inl e)), Decidable.byContradiction (fun e => h3 (.inr e))⟩
theorem ttog_ok {l : List Nod} {i : Nat} (h1 : dupb l i = false) (h2 : fnd l (pparent (at_nod l i).path) l.length = true) (h3 : ¬ (at_nod l i).cls = 0 → (at_nod l (nfirst l (at_nod l i).cls)).mode = (at_nod l i).mode ∧ (at_nod l (nfirst l (at_nod l i).cls)).data = (at_nod l i).data) : ttog l i = 0 := by
  unfold ttog
  rw [h1, h2, if_neg (by decide), if_neg (by decide)]
  by_cases hc : (at_nod l i).cls = 0
  · rw [if_pos hc]
  · rw [if_neg hc, if_neg (fun e => e.elim (fun e => e (h3 hc).1) (fun e => e (h3 hc).2))]
theorem tok_of {l : List Nod} (h : terr l = 0) : TOk l := by
  obtain ⟨h1, h2, -⟩ := terr_zero h
  refine ⟨h1, fun j k hj hk e => ?_, fun k hk => (ttog_zero (h2 k hk)).2.1, fun j k hj hk e hc => ?_⟩
  · have := (ttog_zero (h2 k hk)).1
    rw [dupb_iff.2 ⟨j, hj, e⟩] at this; cases this
  · have a := (ttog_zero (h2 k hk)).2.2 hc
    have b := (ttog_zero (h2 j hj)).2.2 (by rw [e]; exact hc)
    rw [e] at b
    exact ⟨b.1.symm.trans a.1, b.2.symm.trans a.2⟩
theorem TOk.first {l : List Nod} (h : TOk l) {i : Nat} (hi : i < l.length) : ¬ (at_nod l i).cls = 0 → (at_nod l (nfirst l (at_nod l i).cls)).mode = (at_nod l i).mode ∧ (at_nod l (nfirst l (at_nod l i).cls)).data = (at_nod l i).data := fun hc => by
  have h1 := nfirst_of hi
  exact h.agr _ _ (by omega) hi (nfirst_cls (by omega)) hc
theorem TOk.nodup {l : List Nod} (h : TOk l) {i : Nat} (hi : i < l.length) : dupb l i = false := by
  rw [← Bool.not_eq_true, dupb_iff]
  rintro ⟨k, hk, e⟩
  exact h.dup _ _ hk hi e
theorem TOk.tog {l : List Nod} (h : TOk l) {i : Nat} (hi : i < l.length) : ttog l i = 0 := ttog_ok (h.nodup hi) (h.par i hi) (h.first hi)
theorem TOk.res {l : List Nod} (h : TOk l) : tpos l = l.length ∧ terr l = 0 := tres0 h.one (fun k hk => h.tog hk)

/-! ### Another node at the end -/
section
variable {l : List Nod} {x : Nod}
theorem app_one (h : TOk l) {k : Nat} (hk : k < l.length) : tone (at_nod (l ++ [x]) k) = 0 := by rw [nod_app hk]; exact h.one k hk
theorem app_tog (h : TOk l) {k : Nat} (hk : k < l.length) : ttog (l ++ [x]) k = 0 := by
  refine ttog_ok ?_ ?_ ?_
  · rw [← Bool.not_eq_true, dupb_iff]
    rintro ⟨j, hj, e⟩
    rw [nod_app hk, nod_app (by omega)] at e
    exact h.dup _ _ hj hk e
  · rw [nod_app hk]
    rcases fnd_iff.1 (h.par k hk) with e | ⟨j, hj, e1, e2⟩
    · exact fnd_iff.2 (.inl e)
    · exact fnd_iff.2 (.inr ⟨j, by simp; omega, by rw [nod_app hj]; exact e1, by rw [nod_app hj]; exact e2⟩)
  · rw [nod_app hk]
    intro hc
    have h1 := nfirst_of (l := l) hk
    have h2 : nfirst (l ++ [x]) (at_nod l k).cls = nfirst l (at_nod l k).cls := by
      refine nfirst_eq ?_ (fun j hj => ?_) (by simp; omega)
      · rw [nod_app (by omega)]; exact nfirst_cls (by omega)
      · rw [nod_app (by omega)]; exact nfirst_ne hj
    rw [h2, nod_app (by omega)]
    exact h.first hk hc
theorem app_res1 (h : TOk l) (hx : ¬ tone x = 0) : tpos (l ++ [x]) = l.length ∧ terr (l ++ [x]) = tone x := by
  have := tres1 (l := l ++ [x]) (i := l.length) (fun k hk => app_one h hk) (by simp) (by rw [nod_last]; exact hx)
  rw [nod_last] at this; exact this
theorem app_ones (h : TOk l) (hx : tone x = 0) : ∀ k, k < (l ++ [x]).length → tone (at_nod (l ++ [x]) k) = 0 := fun k hk => by
  rcases Nat.lt_or_ge k l.length with h1 | h1
  · exact app_one h h1
  · have : k = l.length := by simp at hk; omega
    rw [this, nod_last]; exact hx
theorem app_res2 (h : TOk l) (hx : tone x = 0) (ht : ¬ ttog (l ++ [x]) l.length = 0) : tpos (l ++ [x]) = l.length ∧ terr (l ++ [x]) = ttog (l ++ [x]) l.length :=
  tres2 (app_ones h hx) (fun k hk => app_tog h hk) (by simp) ht
theorem app_res0 (h : TOk l) (hx : tone x = 0) (ht : ttog (l ++ [x]) l.length = 0) : tpos (l ++ [x]) = (l.length : Int) + 1 ∧ terr (l ++ [x]) = 0 := by
  have := tres0 (app_ones h hx) (fun k hk => by
    rcases Nat.lt_or_ge k l.length with h1 | h1
    · exact app_tog h h1
    · have : k = l.length := by simp at hk; omega
      rw [this]; exact ht)
  rw [List.length_append] at this; exact ⟨this.1, this.2⟩
/-- A node of the tree once more. -/
theorem twice_res (h : TOk l) {i : Nat} (hi : i < l.length) : tpos (l ++ [at_nod l i]) = l.length ∧ terr (l ++ [at_nod l i]) = 14 := by
  have ht : ttog (l ++ [at_nod l i]) l.length = 14 := by
    unfold ttog
    rw [if_pos (dupb_iff.2 ⟨i, hi, by rw [nod_app hi, nod_last]⟩)]
  have := app_res2 h (h.one i hi) (by rw [ht]; decide)
  rw [ht] at this; exact this
theorem tog_last : ttog (l ++ [x]) l.length = if (∃ k, k < l.length ∧ (at_nod l k).path = x.path) then 14 else if fnd (l ++ [x]) (pparent x.path) (l.length + 1) = false then 13 else if x.cls = 0 then 0 else ttog (l ++ [x]) l.length := by
  by_cases h1 : ∃ k, k < l.length ∧ (at_nod l k).path = x.path
  · rw [if_pos h1]
    obtain ⟨k, hk, e⟩ := h1
    unfold ttog
    rw [if_pos (dupb_iff.2 ⟨k, hk, by rw [nod_app hk, nod_last]; exact e⟩)]
  · rw [if_neg h1]
    have hd : ¬ dupb (l ++ [x]) l.length = true := by
      rw [dupb_iff]
      rintro ⟨k, hk, e⟩
      rw [nod_app hk, nod_last] at e
      exact h1 ⟨k, hk, e⟩
    by_cases h2 : fnd (l ++ [x]) (pparent x.path) (l.length + 1) = false
    · rw [if_pos h2]
      unfold ttog
      rw [if_neg hd, nod_last, if_pos (by rw [List.length_append]; exact h2)]
    · rw [if_neg h2]
      by_cases h3 : x.cls = 0
      · rw [if_pos h3]
        unfold ttog
        rw [if_neg hd, nod_last, if_neg (by rw [List.length_append]; exact h2), if_pos h3]
      · rw [if_neg h3]
end

/-! ### Paths and their parents -/
theorem last_spec : ∀ (l : List UInt8) (c : UInt8), (lastIdx l c = -1 ∧ c ∉ l) ∨ ∃ r : Nat, lastIdx l c = r ∧ r < l.length ∧ l = l.take r ++ [c] ++ l.drop (r + 1) ∧ c ∉ l.drop (r + 1)
  | [], c => .inl ⟨rfl, by simp⟩
  | a :: l, c => by
    rcases last_spec l c with ⟨h1, h2⟩ | ⟨r, h1, h2, h3, h4⟩
    · by_cases h : a = c
      · right
        exact ⟨0, by unfold lastIdx; rw [if_pos h1, if_pos h]; rfl, by simp, by simp [h], by simpa using h2⟩
      · left
        refine ⟨by unfold lastIdx; rw [if_pos h1, if_neg h], fun hm => ?_⟩
        rcases List.mem_cons.1 hm with h5 | h5
        · exact h h5.symm
        · exact h2 h5
    · right
      refine ⟨r + 1, by unfold lastIdx; rw [if_neg (by omega), h1]; rfl, by simpa using h2, ?_, by simpa using h4⟩
      simp only [List.take_succ_cons, List.drop_succ_cons, List.cons_append]
      rw [← h3]
theorem par_cases (q : List UInt8) : (pparent q = [] ∧ (47 : UInt8) ∉ q) ∨ ∃ s, q = pparent q ++ [47] ++ s ∧ (47 : UInt8) ∉ s := by
  rcases last_spec q 47 with ⟨h1, h2⟩ | ⟨r, h1, h2, h3, h4⟩
  · exact .inl ⟨by unfold pparent; rw [h1]; rfl, h2⟩
  · have hp : pparent q = q.take r := by unfold pparent; rw [h1]; rfl
    exact .inr ⟨q.drop (r + 1), by rw [hp]; exact h3, h4⟩
theorem par_of {a s : List UInt8} (h : (47 : UInt8) ∉ s) : pparent (a ++ [47] ++ s) = a := by
  rcases par_cases (a ++ [47] ++ s) with ⟨h1, h2⟩ | ⟨t, h1, h2⟩
  · exact absurd (by simp) h2
  · generalize pparent (a ++ [47] ++ s) = b at h1
    have key : ∀ (a b s t : List UInt8), (47 : UInt8) ∉ s → (47 : UInt8) ∉ t → a ++ [47] ++ s = b ++ [47] ++ t → b = a := by
      intro a
      induction a with
      | nil =>
        intro b s t hs ht e
        cases b with
        | nil => rfl
        | cons y b =>
          simp only [List.nil_append, List.cons_append, List.cons.injEq] at e
          exact absurd (by rw [e.2]; simp) hs
      | cons x a ih =>
        intro b s t hs ht e
        cases b with
        | nil =>
          simp only [List.nil_append, List.cons_append, List.cons.injEq] at e
          exact absurd (by rw [← e.2]; simp) ht
        | cons y b =>
          simp only [List.cons_append, List.cons.injEq] at e
          rw [e.1, ih b s t hs ht e.2]
    exact key a b s t h h2 h1
theorem comps_end : ∀ p : List UInt8, comps (p ++ [47]) = comps p ++ [[]]
  | [] => rfl
  | a :: p => by
    have ih := comps_end p
    show comps (a :: (p ++ [47])) = comps (a :: p) ++ [[]]
    unfold comps
    by_cases ha : a = 47
    · rw [if_pos ha, if_pos ha, ih]; rfl
    · rw [if_neg ha, if_neg ha, ih]
      cases hc : comps p with
      | nil => exact absurd hc (comps_ne p)
      | cons y ys => rfl
theorem pcheck_end {p : List UInt8} : ¬ pcheck (p ++ [47]) = 0 := by
  unfold pcheck
  split
  · decide
  · rw [comps_end, List.all_append]
    rw [if_neg (by simp [okc])]; decide
theorem tone_path {x : Nod} (h : tone x = 0) : pcheck x.path = 0 := by
  unfold tone at h
  split at h
  · cases h
  · split at h
    · rename_i h1; exact absurd h h1
    · rename_i h1; exact fcheck_path (Classical.not_not.1 h1)
theorem pcheck_ne {p : List UInt8} (h : pcheck p = 0) : p ≠ [] := by
  rintro rfl; revert h; decide +kernel
/-- Below a path there is a child of it. -/
theorem TOk.child {l : List Nod} (h : TOk l) {p : List UInt8} (hp : p ≠ []) : ∀ (n : Nat) {s : List UInt8} {k : Nat}, s.length ≤ n → k < l.length → (at_nod l k).path = p ++ [47] ++ s → ∃ j, j < l.length ∧ pparent (at_nod l j).path = p
  | n, s, k, hn, hk, e => by
    by_cases h1 : (47 : UInt8) ∈ s
    · rcases par_cases s with ⟨-, h2⟩ | ⟨t, h2, h3⟩
      · exact absurd h1 h2
      · have e3 : p ++ [47] ++ (pparent s ++ [47] ++ t) = (p ++ [47] ++ pparent s) ++ [47] ++ t := by simp
        have e2 : (at_nod l k).path = (p ++ [47] ++ pparent s) ++ [47] ++ t := by rw [e, ← e3, ← h2]
        have hpar : pparent (at_nod l k).path = p ++ [47] ++ pparent s := by rw [e2]; exact par_of h3
        rcases fnd_iff.1 (h.par k hk) with h4 | ⟨j, hj, -, h5⟩
        · rw [hpar] at h4; simp at h4
        · have hlen : (pparent s).length < s.length := by have := congrArg List.length h2; simp at this; omega
          match n, hn with
          | 0, hn => omega
          | n + 1, hn => exact h.child hp n (s := pparent s) (by omega) hj (by rw [h5, hpar])
    · exact ⟨k, hk, by rw [e]; exact par_of h1⟩

/-! ### A node less -/
section
variable {l : List Nod} {i : Nat}
def skip (i k : Nat) : Nat := if k < i then k else k + 1
theorem rest_at (hi : i < l.length) {k : Nat} (hk : k < l.length - 1) : at_nod (l.take i ++ l.drop (i + 1)) k = at_nod l (skip i k) := by
  unfold skip
  by_cases h : k < i
  · rw [if_pos h]
    simp only [at_nod, List.getD_eq_getElem?_getD]
    rw [List.getElem?_append_left (by simp; omega), List.getElem?_take_of_lt h]
  · rw [if_neg h]
    simp only [at_nod, List.getD_eq_getElem?_getD]
    rw [List.getElem?_append_right (by simp; omega), List.getElem?_drop]
    congr 2
    simp only [List.length_take]; omega
theorem rest_len (hi : i < l.length) : (l.take i ++ l.drop (i + 1)).length = l.length - 1 := by simp; omega
theorem skip_lt (hi : i < l.length) {k : Nat} (hk : k < l.length - 1) : skip i k < l.length ∧ skip i k ≠ i := by unfold skip; split <;> omega
theorem skip_mono {j k : Nat} (h : j < k) : skip i j < skip i k := by unfold skip; split <;> split <;> omega
theorem skip_of {k : Nat} (hk : k < l.length) (hne : k ≠ i) (hi : i < l.length) : ∃ j, j < l.length - 1 ∧ skip i j = k := by
  unfold skip
  by_cases h : k < i
  · exact ⟨k, by omega, if_pos h⟩
  · exact ⟨k - 1, by omega, by rw [if_neg (by omega)]; omega⟩
theorem rest_one (h : TOk l) (hi : i < l.length) : ∀ k, k < (l.take i ++ l.drop (i + 1)).length → tone (at_nod (l.take i ++ l.drop (i + 1)) k) = 0 := fun k hk => by
  rw [rest_len hi] at hk
  rw [rest_at hi hk]; exact h.one _ (skip_lt hi hk).1
theorem rest_tog (h : TOk l) (hi : i < l.length) {k : Nat} (hk : k < l.length - 1) : ttog (l.take i ++ l.drop (i + 1)) k = if fnd (l.take i ++ l.drop (i + 1)) (pparent (at_nod l (skip i k)).path) (l.length - 1) = false then 13 else 0 := by
  have hd : dupb (l.take i ++ l.drop (i + 1)) k = false := by
    rw [← Bool.not_eq_true, dupb_iff]
    rintro ⟨j, hj, e⟩
    rw [rest_at hi hk, rest_at hi (by omega)] at e
    exact h.dup _ _ (skip_mono hj) (skip_lt hi hk).1 e
  by_cases hf : fnd (l.take i ++ l.drop (i + 1)) (pparent (at_nod l (skip i k)).path) (l.length - 1) = false
  · rw [if_pos hf]
    unfold ttog
    rw [if_neg (by rw [hd]; decide), rest_at hi hk, rest_len hi, if_pos hf]
  · rw [if_neg hf]
    refine ttog_ok hd (by rw [rest_at hi hk, rest_len hi]; simpa using hf) (fun hc => ?_)
    have h1 := nfirst_of (l := l.take i ++ l.drop (i + 1)) (i := k) (by rw [rest_len hi]; exact hk)
    have h2 := nfirst_cls (l := l.take i ++ l.drop (i + 1)) (c := (at_nod (l.take i ++ l.drop (i + 1)) k).cls) (by rw [rest_len hi]; omega)
    generalize nfirst (l.take i ++ l.drop (i + 1)) (at_nod (l.take i ++ l.drop (i + 1)) k).cls = f at h1 h2 ⊢
    rw [rest_at hi hk] at hc h2 ⊢
    rw [rest_at hi (by omega)] at h2 ⊢
    exact h.agr _ _ (skip_lt hi (by omega)).1 (skip_lt hi hk).1 h2 hc
theorem rest_bad (h : TOk l) (hi : i < l.length) {k : Nat} (hk : k < l.length) {s : List UInt8} (e : (at_nod l k).path = (at_nod l i).path ++ [47] ++ s) :
    terr (l.take i ++ l.drop (i + 1)) = 13 ∧ tpos (l.take i ++ l.drop (i + 1)) < (l.length : Int) - 1 := by
  have hp := pcheck_ne (tone_path (h.one i hi))
  obtain ⟨j, hj, hje⟩ := h.child hp s.length (Nat.le_refl _) hk e
  have hji : j ≠ i := by
    rintro rfl
    rcases par_cases (at_nod l j).path with ⟨h1, -⟩ | ⟨t, h1, -⟩
    · exact hp (hje.symm.trans h1)
    · have := congrArg List.length h1; rw [hje] at this; simp at this
  obtain ⟨m, hm, hms⟩ := skip_of hj hji hi
  have hbad : ¬ ttog (l.take i ++ l.drop (i + 1)) m = 0 := by
    rw [rest_tog h hi hm, hms, hje, if_pos]
    · decide
    · rw [← Bool.not_eq_true, fnd_iff]
      rintro (h1 | ⟨q, hq, -, h2⟩)
      · exact hp h1
      · rw [rest_at hi hq] at h2
        rcases Nat.lt_trichotomy (skip i q) i with h3 | h3 | h3
        · exact h.dup _ _ h3 hi h2
        · exact (skip_lt hi hq).2 h3
        · exact h.dup _ _ h3 (skip_lt hi hq).1 h2.symm
  have e1 : bad1 (l.take i ++ l.drop (i + 1)) = (l.take i ++ l.drop (i + 1)).length := fbad_end (rest_one h hi)
  obtain ⟨b1, b2, b3, b4⟩ := fbad_spec (ttog (l.take i ++ l.drop (i + 1))) (l.take i ++ l.drop (i + 1)).length 0
  have hlt : bad2 (l.take i ++ l.drop (i + 1)) < (l.take i ++ l.drop (i + 1)).length := by
    apply Decidable.byContradiction; intro h9
    exact hbad (b3 m (by omega) (by have := rest_len hi; change m < bad2 _; omega))
  have h5 := b4 (by change bad2 _ < _; omega)
  change ¬ ttog _ (bad2 _) = 0 at h5
  unfold terr tpos
  rw [e1, if_neg (Nat.lt_irrefl _), if_neg (Nat.lt_irrefl _), if_pos hlt]
  rw [rest_len hi] at hlt
  have h6 := rest_tog h hi hlt
  refine ⟨?_, by omega⟩
  rw [h6] at h5 ⊢
  split
  · rfl
  · rename_i h7; rw [if_neg h7] at h5; exact absurd rfl h5
theorem rest_good (h : TOk l) (hi : i < l.length) (hno : ∀ k, k < l.length → ∀ s, s ≠ [] → ¬ (at_nod l k).path = (at_nod l i).path ++ [47] ++ s) :
    terr (l.take i ++ l.drop (i + 1)) = 0 ∧ tpos (l.take i ++ l.drop (i + 1)) = (l.length : Int) - 1 := by
  have := tres0 (rest_one h hi) (fun k hk => by
    rw [rest_len hi] at hk
    rw [rest_tog h hi hk, if_neg]
    rw [Bool.not_eq_false, fnd_iff]
    have hs := skip_lt hi hk
    rcases fnd_iff.1 (h.par _ hs.1) with h1 | ⟨j, hj, h1, h2⟩
    · exact .inl h1
    · by_cases hji : j = i
      · subst hji
        exfalso
        rcases par_cases (at_nod l (skip j k)).path with ⟨h3, -⟩ | ⟨t, h3, -⟩
        · exact pcheck_ne (tone_path (h.one j hj)) (h2.trans h3)
        · rw [← h2] at h3
          by_cases ht : t = []
          · rw [ht, List.append_nil] at h3
            have := tone_path (h.one _ hs.1)
            rw [h3] at this
            exact pcheck_end this
          · exact hno _ hs.1 t ht h3
      · obtain ⟨m, hm, hms⟩ := skip_of hj hji hi
        exact .inr ⟨m, hm, by rw [rest_at hi hm, hms]; exact h1, by rw [rest_at hi hm, hms]; exact h2⟩)
  rw [rest_len hi] at this
  exact ⟨this.2, by rw [this.1]; omega⟩
end
end Go.Xp
