/- Layer 10 (fit): what merging tells of a plan with a record less, or one more. -/
import Derived.Test.YtkcgabodpcfohaaDoorMergeL
import Derived.Test.YtkcgabodpcfohaaDoorMergeQ
set_option linter.unusedSimpArgs false
set_option linter.unusedVariables false
set_option linter.unusedSectionVars false
namespace Go.Xp
open Go.Proofs

theorem ftarget_nil {k : Int} {tg : List UInt8} (h : ftarget k tg = 0) (hne : tg ≠ []) : ¬ ftarget k [] = 0 := by
  unfold ftarget at h ⊢
  by_cases h3 : k = 3
  · rw [if_pos h3]; decide +kernel
  · rw [if_neg h3] at h ⊢
    by_cases h2 : k = 2
    · rw [if_pos h2]; decide +kernel
    · rw [if_neg h2, if_pos hne] at h; cases h
theorem mres_mok {ty md sz : Int} {nm pr lk : List UInt8} {l : List Rec} {p tg : List UInt8} {z : Int} (h : mres ty nm pr lk md sz l = some (p, tg, z)) : mok (mkind ty) md ty nm pr lk md sz l p tg z := by
  unfold mres at h
  cases hf : mfold l (pjoin pr nm) lk sz with
  | none => rw [hf] at h; cases h
  | some x =>
    obtain ⟨a, b, c⟩ := x
    rw [hf] at h
    unfold mcheck at h
    simp only at h
    split at h
    · rename_i hm; cases h; exact hm
    · cases h
/-- A merged entry, against the header of a plan: what they share. -/
theorem mres_of {k m z : Int} {p tg : List UInt8} (e : fcheck k p m tg z = 0) {l : List Rec} {p' tg' : List UInt8} {z' : Int}
    (h : mres (fT (fcheck k p m tg z) k) (fN (fcheck k p m tg z) p) (fP (fcheck k p m tg z) p) (fL (fcheck k p m tg z) tg) (fM (fcheck k p m tg z) m) (fZ (fcheck k p m tg z) z) l = some (p', tg', z')) :
    fcheck k p' m tg' z' = 0 ∧ snam p' = snam p ∧ spre p' = spre p ∧ (if 100 < tg'.length then ([] : List UInt8) else tg') = (if 100 < tg.length then [] else tg) ∧ (if 8589934591 < z' then (0 : Int) else z') = (if 8589934591 < z then 0 else z) ∧ l = frecs p' tg' z' := by
  have hm := mres_mok h
  rw [(mres_plan e).2] at hm
  simp only [fM, if_pos e] at hm
  obtain ⟨c0, ⟨h1, h2, h3, h4, h5, h6⟩, h7⟩ := hm
  simp only [fN, fP, fL, fZ, fR, if_pos e, if_pos c0] at h2 h3 h4 h6 h7
  exact ⟨c0, h2, h3, h4, h6, h7⟩
theorem frecs_less (p tg : List UInt8) (z : Int) (i : Nat) (hi : i < (frecs p tg z).length) :
    ((at_rec (frecs p tg z) i).key = [108, 105, 110, 107, 112, 97, 116, 104] ∧ rget ((frecs p tg z).take i ++ (frecs p tg z).drop (i + 1)) [108, 105, 110, 107, 112, 97, 116, 104] = none ∧ 100 < tg.length) ∨
    ((at_rec (frecs p tg z) i).key = [112, 97, 116, 104] ∧ rget ((frecs p tg z).take i ++ (frecs p tg z).drop (i + 1)) [112, 97, 116, 104] = none ∧ sok p = false) ∨
    ((at_rec (frecs p tg z) i).key = [115, 105, 122, 101] ∧ rget ((frecs p tg z).take i ++ (frecs p tg z).drop (i + 1)) [115, 105, 122, 101] = none ∧ 8589934591 < z) := by
  unfold frecs at hi ⊢
  by_cases h1 : 100 < tg.length <;> rcases Bool.eq_false_or_eq_true (sok p) with h2 | h2 <;> by_cases h3 : 8589934591 < z <;> simp only [h1, h2, h3, eq_self, if_true, if_false, Bool.false_eq_true, List.nil_append, List.append_nil, List.cons_append, List.length_cons, List.length_nil] at hi ⊢ <;> rcases i with _ | _ | _ | i <;> first | (exfalso; omega) | (exfalso; simp only [Nat.zero_add] at hi; omega) | simp [rget, at_rec]
theorem less_law {k m z : Int} {p tg : List UInt8} (e : fcheck k p m tg z = 0) {i : Nat} (hi : i < (frecs p tg z).length) {p' tg' : List UInt8} {z' : Int}
    (h : mres (fT (fcheck k p m tg z) k) (fN (fcheck k p m tg z) p) (fP (fcheck k p m tg z) p) (fL (fcheck k p m tg z) tg) (fM (fcheck k p m tg z) m) (fZ (fcheck k p m tg z) z) ((frecs p tg z).take i ++ (frecs p tg z).drop (i + 1)) = some (p', tg', z')) :
    (at_rec (frecs p tg z) i).key = [115, 105, 122, 101] ∧ z' = 0 := by
  obtain ⟨c0, hN, hP, hL, hZ, hl⟩ := mres_of e h
  rcases frecs_less p tg z i hi with ⟨hk, hr, h1⟩ | ⟨hk, hr, h1⟩ | ⟨hk, hr, h1⟩
  · exfalso
    rw [hl, rget_link] at hr
    have h2 : ¬ 100 < tg'.length := fun h => by rw [if_pos h] at hr; cases hr
    rw [if_neg h2, if_pos h1] at hL
    have h3 := fcheck_target c0
    rw [hL] at h3
    exact ftarget_nil (fcheck_target e) (fun e => by rw [e] at h1; simp at h1) h3
  · exfalso
    rw [hl, rget_path] at hr
    have h2 : sok p' = true := Decidable.byContradiction (fun h => by rw [if_neg h] at hr; cases hr)
    have sn := sok_nil h1
    have hj := (join_split h2).1
    rw [hN, hP, sn.1, sn.2] at hj
    have := fcheck_path c0
    rw [← hj] at this
    exact absurd this (by decide +kernel)
  · refine ⟨hk, ?_⟩
    rw [hl, rget_size] at hr
    have h2 : ¬ 8589934591 < z' := fun h => by rw [if_pos h] at hr; cases hr
    rw [if_neg h2, if_pos h1] at hZ
    exact hZ
theorem snoc_of {l a : List Rec} {x y : Rec} (h : l ++ [x] = a ++ [y]) : l = a ∧ x = y := by
  have := List.append_inj' h rfl
  exact ⟨this.1, by simpa using this.2⟩
theorem more_law {k m z : Int} {p tg : List UInt8} (e : fcheck k p m tg z = 0) {x : Rec} {p' tg' : List UInt8} {z' : Int}
    (h : mres (fT (fcheck k p m tg z) k) (fN (fcheck k p m tg z) p) (fP (fcheck k p m tg z) p) (fL (fcheck k p m tg z) tg) (fM (fcheck k p m tg z) m) (fZ (fcheck k p m tg z) z) (frecs p tg z ++ [x]) = some (p', tg', z')) :
    x.key = [115, 105, 122, 101] ∧ 8589934591 < z' := by
  obtain ⟨c0, hN, hP, hL, hZ, hl⟩ := mres_of e h
  have c1 : frecs p tg z ++ [x] = frecs p' tg' z' := hl
  by_cases h3 : 8589934591 < z'
  · refine ⟨?_, h3⟩
    have e1 : frecs p' tg' z' = ((if 100 < tg'.length then [⟨[108, 105, 110, 107, 112, 97, 116, 104], tg'⟩] else []) ++ (if sok p' = true then [] else [⟨[112, 97, 116, 104], p'⟩])) ++ [⟨[115, 105, 122, 101], Lib.decDigits z'.toNat⟩] := by
      unfold frecs; rw [if_pos h3]; simp
    rw [e1] at c1
    rw [(snoc_of c1).2]
  · exfalso
    by_cases h2 : sok p' = true
    · by_cases h1 : 100 < tg'.length
      · have e1 : frecs p' tg' z' = [] ++ [⟨[108, 105, 110, 107, 112, 97, 116, 104], tg'⟩] := by unfold frecs; rw [if_pos h1, if_pos h2, if_neg h3]; rfl
        rw [e1] at c1
        have hr := rget_link p tg z
        rw [(snoc_of c1).1] at hr
        have h4 : ¬ 100 < tg.length := fun h => by rw [if_pos h] at hr; cases hr
        rw [if_pos h1, if_neg h4] at hL
        have h5 := fcheck_target e
        rw [← hL] at h5
        exact ftarget_nil (fcheck_target c0) (fun e => by rw [e] at h1; simp at h1) h5
      · have e1 : frecs p' tg' z' = [] := by unfold frecs; rw [if_neg h1, if_pos h2, if_neg h3]; rfl
        rw [e1] at c1
        have := congrArg List.length c1
        simp at this
    · have h2' : sok p' = false := by simpa using h2
      have e1 : frecs p' tg' z' = (if 100 < tg'.length then [⟨[108, 105, 110, 107, 112, 97, 116, 104], tg'⟩] else []) ++ [⟨[112, 97, 116, 104], p'⟩] := by unfold frecs; rw [if_neg h2, if_neg h3]; simp
      rw [e1] at c1
      have hr := rget_path p tg z
      rw [(snoc_of c1).1] at hr
      have h4 : sok p = true := Decidable.byContradiction (fun h => by rw [if_neg h] at hr; split at hr <;> simp [rget] at hr)
      have sn := sok_nil h2'
      have hj := (join_split h4).1
      rw [← hN, ← hP, sn.1, sn.2] at hj
      have := fcheck_path e
      rw [← hj] at this
      exact absurd this (by decide +kernel)
end Go.Xp
