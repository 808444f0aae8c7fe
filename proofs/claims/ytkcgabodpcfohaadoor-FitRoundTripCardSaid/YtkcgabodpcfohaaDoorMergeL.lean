/- Layer 10 (fit): Merge, plain laws. -/
import Derived.Test.YtkcgabodpcfohaaDoorMergeP
set_option linter.unusedSimpArgs false
set_option linter.unusedVariables false
set_option linter.unusedSectionVars false
namespace Go.Xp
open Go.Proofs

theorem dec_pint {u : Nat} (h : u < 9223372036854775808) : pint (Lib.decDigits u) = u := by
  unfold pint; rw [parseI (dec_ok u) (dec_ne u), if_pos (by rw [decN_dec]; exact h), decN_dec]
theorem dec_pszok {u : Nat} (h : u < 9223372036854775808) : psz_ok (Lib.decDigits u) = true := by
  have h1 : pbad (Lib.decDigits u) = false := by unfold pbad; rw [parseI (dec_ok u) (dec_ne u), if_pos (by rw [decN_dec]; exact h)]
  have h2 : ¬ (Lib.decDigits u).take 1 = [43] := fun e => not_digit (u := u) (c := 43) (by decide) (List.mem_of_mem_take (i := 1) (by rw [e]; simp))
  unfold psz_ok; rw [h1, decide_eq_false h2]; rfl
def rstep (r : Rec) (p tg : List UInt8) (z : Int) : Option (List UInt8 × List UInt8 × Int) :=
  if r.key = [108, 105, 110, 107, 112, 97, 116, 104] then some (p, r.val, z)
  else if r.key = [112, 97, 116, 104] then some (r.val, tg, z)
  else if r.key = [115, 105, 122, 101] then (if nerr r.val 1099511627776 = 0 then some (p, tg, nnum r.val 1099511627776) else none)
  else some (p, tg, z)
def rfold : List Rec → List UInt8 → List UInt8 → Int → Option (List UInt8 × List UInt8 × Int)
  | [], p, tg, z => some (p, tg, z)
  | r :: l, p, tg, z => match rstep r p tg z with
    | some (p', tg', z') => rfold l p' tg' z'
    | none => none
theorem mfold_recs {p tg : List UInt8} {z : Int} (hz : z ≤ 1099511627776) (P T : List UInt8) (Z : Int) :
    mfold (frecs p tg z) P T Z = some (if sok p = true then P else p, if 100 < tg.length then tg else T, if 8589934591 < z then z else Z) := by
  unfold frecs
  by_cases h3 : 8589934591 < z
  · have hu : z.toNat < 9223372036854775808 := by omega
    have e : ((z.toNat : Nat) : Int) = z := by omega
    by_cases h1 : 100 < tg.length <;> by_cases h2 : sok p = true <;> simp [h1, h2, h3, mfold, mstep, dec_pint hu, dec_pszok hu, e]
  · by_cases h1 : 100 < tg.length <;> by_cases h2 : sok p = true <;> simp [h1, h2, h3, mfold, mstep]
theorem rfold_recs {p tg : List UInt8} {z : Int} (hz : z ≤ 1099511627776) (P T : List UInt8) (Z : Int) :
    rfold (frecs p tg z) P T Z = some (if sok p = true then P else p, if 100 < tg.length then tg else T, if 8589934591 < z then z else Z) := by
  unfold frecs
  by_cases h3 : 8589934591 < z
  · have e : ((z.toNat : Nat) : Int) = z := by omega
    have e1 : nerr (Lib.decDigits z.toNat) 1099511627776 = 0 := nerr_dec (by omega)
    have e2 : nnum (Lib.decDigits z.toNat) 1099511627776 = z := by rw [nnum_dec (by omega), e]
    by_cases h1 : 100 < tg.length <;> by_cases h2 : sok p = true <;> simp [h1, h2, h3, rfold, rstep, e1, e2]
  · by_cases h1 : 100 < tg.length <;> by_cases h2 : sok p = true <;> simp [h1, h2, h3, rfold, rstep]
theorem fcheck_size {k m z : Int} {p tg : List UInt8} (h : fcheck k p m tg z = 0) : 0 ≤ z ∧ z ≤ 1099511627776 := by
  unfold fcheck at h
  split at h
  · cases h
  · split at h
    · rename_i h1; exact absurd h h1
    · split at h
      · cases h
      · split at h
        · rename_i h1; exact absurd h h1
        · unfold fsize at h
          split at h
          · cases h
          · split at h
            · cases h
            · omega
theorem fcheck_target {k m z : Int} {p tg : List UInt8} (h : fcheck k p m tg z = 0) : ftarget k tg = 0 := by
  unfold fcheck at h
  split at h
  · cases h
  · split at h
    · rename_i h1; exact absurd h h1
    · split at h
      · cases h
      · split at h
        · rename_i h1; exact absurd h h1
        · rename_i h1; exact Classical.not_not.1 h1
/-- Both sides' folds come to the same entry, if the list is one that a plan gives. -/
theorem mcheck_rfold (k m ty : Int) (nm pr lk : List UInt8) (md sz : Int) (l : List Rec) (P T : List UInt8) (Z : Int) :
    mcheck k m ty nm pr lk md sz l (rfold l P T Z) = mcheck k m ty nm pr lk md sz l (mfold l P T Z) := by
  by_cases h : ∃ p tg z, mok k m ty nm pr lk md sz l p tg z
  · obtain ⟨p, tg, z, h0, -, hl⟩ := h
    rw [fR, if_pos h0] at hl
    rw [hl, rfold_recs (fcheck_size h0).2, mfold_recs (fcheck_size h0).2]
  · have hn : ∀ f, mcheck k m ty nm pr lk md sz l f = none := by
      intro f
      cases f with
      | none => rfl
      | some x => exact if_neg (fun e => h ⟨_, _, _, e⟩)
    rw [hn, hn]
theorem mkind_ftyp {k : Int} (h : 0 ≤ k ∧ k ≤ 3) : mkind (ftyp k) = k := by
  obtain ⟨i, rfl⟩ := Int.eq_ofNat_of_zero_le h.1
  have hi : i < 4 := by omega
  have key : ∀ i : Fin 4, mkind (ftyp ((i.val : Nat) : Int)) = ((i.val : Nat) : Int) := by decide
  exact key ⟨i, hi⟩
/-- Merge inverts Plan. -/
theorem mres_plan {k m z : Int} {p tg : List UInt8} (e : fcheck k p m tg z = 0) :
    mres (fT (fcheck k p m tg z) k) (fN (fcheck k p m tg z) p) (fP (fcheck k p m tg z) p) (fL (fcheck k p m tg z) tg) (fM (fcheck k p m tg z) m) (fZ (fcheck k p m tg z) z) (fR (fcheck k p m tg z) p tg z) = some (p, tg, z) ∧ mkind (fT (fcheck k p m tg z) k) = k := by
  have hk : mkind (fT (fcheck k p m tg z) k) = k := by rw [fT, if_pos e]; exact mkind_ftyp (fcheck_kind e)
  refine ⟨?_, hk⟩
  unfold mres
  rw [hk]
  have hf : mfold (fR (fcheck k p m tg z) p tg z) (pjoin (fP (fcheck k p m tg z) p) (fN (fcheck k p m tg z) p)) (fL (fcheck k p m tg z) tg) (fZ (fcheck k p m tg z) z) = some (p, tg, z) := by
    rw [fR, if_pos e, mfold_recs (fcheck_size e).2, fP, if_pos e, fN, if_pos e, fL, if_pos e, fZ, if_pos e]
    congr 1
    refine Prod.ext ?_ (Prod.ext ?_ ?_)
    · show (if sok p = true then pjoin (spre p) (snam p) else p) = p
      by_cases h : sok p = true
      · rw [if_pos h]; exact (join_split h).1
      · rw [if_neg h]
    · show (if 100 < tg.length then tg else if 100 < tg.length then [] else tg) = tg
      by_cases h : 100 < tg.length
      · rw [if_pos h]
      · rw [if_neg h, if_neg h]
    · show (if 8589934591 < z then z else if 8589934591 < z then 0 else z) = z
      by_cases h : 8589934591 < z
      · rw [if_pos h]
      · rw [if_neg h, if_neg h]
  rw [hf]
  have hm : fM (fcheck k p m tg z) m = m := by rw [fM, if_pos e]
  exact if_pos (by rw [hm]; exact ⟨e, ⟨rfl, rfl, rfl, rfl, hm, rfl⟩, rfl⟩)
end Go.Xp
