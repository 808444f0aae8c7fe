/- Layer 10 (fit): the header and the records of a valid entry are valid. -/
import Derived.Test.YtdmhigknppkniaaGreatDoorRt
import Derived.Test.YtdmhigknppkniaaGreatDoorUstE
import Derived.Test.YtdmhigknppkniaaGreatDoorMergeP
set_option linter.unusedSimpArgs false
set_option linter.unusedVariables false
set_option linter.unusedSectionVars false
namespace Go.Xp
open Go.Proofs

theorem fcheck_size {k m z : Int} {p tg : List UInt8} (h : fcheck k p m tg z = 0) : 0 ≤ z ∧ z ≤ 1099511627776 := by
  unfold fcheck at h
  split at h
  · cases h
  · split at h
    · rename_i h1; exact absurd h h1
    · split at h
      · cases h
      · split at h
        · rename_i h1; exact absurd h h1
        · unfold fsize at h
          split at h
          · cases h
          · split at h
            · cases h
            · omega
theorem fcheck_target {k m z : Int} {p tg : List UInt8} (h : fcheck k p m tg z = 0) : ftarget k tg = 0 := by
  unfold fcheck at h
  split at h
  · cases h
  · split at h
    · rename_i h1; exact absurd h h1
    · split at h
      · cases h
      · split at h
        · rename_i h1; exact absurd h h1
        · rename_i h1; exact Classical.not_not.1 h1
theorem comps_mem : ∀ {p : List UInt8} {x : UInt8}, x ∈ p → x ≠ 47 → ∃ c ∈ comps p, x ∈ c
  | a :: l, x, h, hx => by
    unfold comps
    by_cases ha : a = 47
    · rw [if_pos ha]
      rcases List.mem_cons.1 h with e | h
      · exact absurd (e.trans ha) hx
      · obtain ⟨c, h1, h2⟩ := comps_mem h hx
        exact ⟨c, List.mem_cons_of_mem _ h1, h2⟩
    · rw [if_neg ha]
      cases hc : comps l with
      | nil => exact absurd hc (comps_ne l)
      | cons y ys =>
        simp only
        rcases List.mem_cons.1 h with e | h
        · exact ⟨_, List.mem_cons_self, by rw [e]; exact List.mem_cons_self⟩
        · obtain ⟨c, h1, h2⟩ := comps_mem h hx
          rw [hc] at h1
          rcases List.mem_cons.1 h1 with e | h1
          · exact ⟨_, List.mem_cons_self, by rw [← e]; exact List.mem_cons_of_mem _ h2⟩
          · exact ⟨c, List.mem_cons_of_mem _ h1, h2⟩
theorem pcheck_valid {p : List UInt8} (h : pcheck p = 0) : p.length ≤ 65536 ∧ p ≠ [] ∧ (0 : UInt8) ∉ p := by
  unfold pcheck at h
  split at h
  · cases h
  · split at h
    · rename_i h1 h2
      refine ⟨by omega, ?_, ?_⟩
      · rintro rfl; revert h2; decide
      · intro h0
        obtain ⟨c, h3, h4⟩ := comps_mem h0 (by decide)
        have := List.all_eq_true.1 h2 c h3
        unfold okc at this
        simp only [Bool.and_eq_true, Bool.not_eq_true', List.contains_eq_mem, decide_eq_false_iff_not] at this
        exact this.2 h4
    · cases h
theorem ftarget_valid {k : Int} {tg : List UInt8} (h : ftarget k tg = 0) : (0 : UInt8) ∉ tg ∧ tg.length ≤ 65536 := by
  unfold ftarget at h
  split at h
  · have := pcheck_valid h; exact ⟨this.2.2, this.1⟩
  · split at h
    · rw [rerr_path (by simp) (by simp)] at h
      split at h
      · cases h
      · split at h
        · cases h
        · rename_i h1 h2; exact ⟨fun e => h2 (.inr e), by omega⟩
    · split at h
      · cases h
      · rename_i h1; have := Classical.not_not.1 h1; rw [this]; simp
theorem fcheck_mode {k m z : Int} {p tg : List UInt8} (h : fcheck k p m tg z = 0) : 0 ≤ m ∧ m ≤ 4095 := by
  unfold fcheck at h
  split at h
  · cases h
  · split at h
    · rename_i h1; exact absurd h h1
    · split at h
      · cases h
      · omega
theorem rerr_plain {k v : List UInt8} (h : k ∈ [[108, 105, 110, 107, 112, 97, 116, 104], [112, 97, 116, 104], [115, 105, 122, 101]]) (h2 : ¬ k = [115, 105, 122, 101]) (h3 : v.length ≤ 65536) (h4 : v ≠ []) (h5 : (0 : UInt8) ∉ v) : rerr k v = 0 := by
  rw [rerr_path h h2, if_neg (by omega), if_neg (fun e => e.elim h4 h5)]
theorem rlerr_plan {k m z : Int} {p tg : List UInt8} (e : fcheck k p m tg z = 0) : rlerr none (fR (fcheck k p m tg z) p tg z) = 0 := by
  rw [fR, if_pos e]
  have hz := fcheck_size e
  have hp := pcheck_valid (fcheck_path e)
  have ht := ftarget_valid (fcheck_target e)
  have e2 : rerr [112, 97, 116, 104] p = 0 := rerr_plain (by simp) (by decide) hp.1 hp.2.1 hp.2.2
  have e3 : rerr [115, 105, 122, 101] (Lib.decDigits z.toNat) = 0 := by unfold rerr; rw [if_pos rfl]; exact nerr_dec (by omega)
  have o1 : sle [112, 97, 116, 104] [108, 105, 110, 107, 112, 97, 116, 104] = false := by decide
  have o2 : sle [115, 105, 122, 101] [108, 105, 110, 107, 112, 97, 116, 104] = false := by decide
  have o3 : sle [115, 105, 122, 101] [112, 97, 116, 104] = false := by decide
  unfold frecs
  by_cases h1 : 100 < tg.length
  · have e1 : rerr [108, 105, 110, 107, 112, 97, 116, 104] tg = 0 := rerr_plain (by simp) (by decide) ht.2 (fun e => by rw [e] at h1; simp at h1) ht.1
    by_cases h2 : sok p = true <;> by_cases h3 : 8589934591 < z <;> simp [h1, h2, h3, rlerr, e1, e2, e3, ordBad, o1, o2, o3]
  · by_cases h2 : sok p = true <;> by_cases h3 : 8589934591 < z <;> simp [h1, h2, h3, rlerr, e2, e3, ordBad, o1, o2, o3]
theorem snam_sub {p : List UInt8} {x : UInt8} (h : x ∈ snam p) : x ∈ p := by
  unfold snam at h
  split at h
  · exact h
  · split at h
    · cases h
    · exact List.mem_of_mem_drop h
theorem spre_sub {p : List UInt8} {x : UInt8} (h : x ∈ spre p) : x ∈ p := by
  unfold spre at h
  split at h
  · cases h
  · split at h
    · cases h
    · exact List.mem_of_mem_take h
theorem uknown_ftyp {k : Int} (h : 0 ≤ k ∧ k ≤ 3) : uknown (ftyp k) = true := by
  obtain ⟨i, rfl⟩ := Int.eq_ofNat_of_zero_le h.1
  have hi : i < 4 := by omega
  have key : ∀ i : Fin 4, uknown (ftyp ((i.val : Nat) : Int)) = true := by decide
  exact key ⟨i, hi⟩
theorem cerr_ok {s : List UInt8} {w : Nat} (h0 : (0 : UInt8) ∉ s) (hl : s.length ≤ w) (hw : 1 ≤ w ∧ w ≤ 256) : cerr s (w : Int) = 0 := by
  unfold cerr; rw [if_neg (by omega), if_neg h0, if_neg (by omega)]
theorem ucheck_plan {k m z : Int} {p tg : List UInt8} (e : fcheck k p m tg z = 0) :
    ucheck (fT (fcheck k p m tg z) k) (fN (fcheck k p m tg z) p) (fP (fcheck k p m tg z) p) (fL (fcheck k p m tg z) tg) (fM (fcheck k p m tg z) m) (fZ (fcheck k p m tg z) z) = 0 := by
  have hz := fcheck_size e
  have hm := fcheck_mode e
  have hp := pcheck_valid (fcheck_path e)
  have ht := ftarget_valid (fcheck_target e)
  rw [fT, if_pos e, fN, if_pos e, fP, if_pos e, fL, if_pos e, fM, if_pos e, fZ, if_pos e]
  have hs : (snam p).length ≤ 100 ∧ (spre p).length ≤ 155 := by
    by_cases h : sok p = true
    · have := join_split h; exact ⟨this.2.1, this.2.2.1⟩
    · have := sok_nil (by simpa using h : sok p = false); rw [this.1, this.2]; simp
  have c1 : cerr (snam p) 100 = 0 := cerr_ok (w := 100) (fun h => hp.2.2 (snam_sub h)) hs.1 (by decide)
  have c2 : cerr (spre p) 155 = 0 := cerr_ok (w := 155) (fun h => hp.2.2 (spre_sub h)) hs.2 (by decide)
  have c3 : cerr (if 100 < tg.length then [] else tg) 100 = 0 := by
    by_cases h : 100 < tg.length
    · rw [if_pos h]; decide
    · rw [if_neg h]; exact cerr_ok (w := 100) ht.1 (by omega) (by decide)
  unfold ucheck
  rw [if_neg (by rw [uknown_ftyp (fcheck_kind e)]; decide), if_neg (by rw [c1]; decide), if_neg (by rw [c3]; decide), if_neg (by rw [c2]; decide), if_neg (by omega), if_neg (by split <;> omega)]
theorem nDigits_le_succ : ∀ u : Nat, Lib.nDigits u ≤ u + 1 := by
  intro u
  induction u using Nat.strongRecOn with
  | ind u ih =>
    rcases Nat.lt_or_ge u 10 with h | h
    · rw [Lib.nDigits_small h]; omega
    · rw [Lib.nDigits_big (by omega)]; have := ih (u / 10) (by omega); omega
theorem fT_range (c k : Int) : 0 ≤ fT c k ∧ fT c k ≤ 255 := by
  unfold fT
  split
  · exact byt_lt _ _
  · omega
theorem fR_good {k m z : Int} {p tg : List UInt8} (e : fcheck k p m tg z = 0) (hp : p.length ≤ 70000) (ht : tg.length ≤ 70000) : ∀ r ∈ fR (fcheck k p m tg z) p tg z, r.key.length ≤ 140737488355328 ∧ r.val.length ≤ 140737488355328 := by
  have hz := fcheck_size e
  have hn := nDigits_le_succ z.toNat
  rw [fR, if_pos e]
  unfold frecs
  intro r hr
  simp only [List.mem_append] at hr
  rcases hr with hr | hr | hr
  · split at hr
    · rw [List.mem_singleton.1 hr]; exact ⟨by show 8 ≤ _; decide, by show tg.length ≤ _; omega⟩
    · cases hr
  · split at hr
    · cases hr
    · rw [List.mem_singleton.1 hr]; exact ⟨by show 4 ≤ _; decide, by show p.length ≤ _; omega⟩
  · split at hr
    · rw [List.mem_singleton.1 hr]; exact ⟨by show 4 ≤ _; decide, by show (Lib.decDigits z.toNat).length ≤ _; rw [Lib.decDigits_length]; omega⟩
    · cases hr
end Go.Xp

/- Layer 10 (fit): Merge, plain laws. -/
namespace Go.Xp
open Go.Proofs

theorem dec_pint {u : Nat} (h : u < 9223372036854775808) : pint (Lib.decDigits u) = u := by
  unfold pint; rw [parseI (dec_ok u) (dec_ne u), if_pos (by rw [decN_dec]; exact h), decN_dec]
theorem dec_pszok {u : Nat} (h : u < 9223372036854775808) : psz_ok (Lib.decDigits u) = true := by
  have h1 : pbad (Lib.decDigits u) = false := by unfold pbad; rw [parseI (dec_ok u) (dec_ne u), if_pos (by rw [decN_dec]; exact h)]
  have h2 : ¬ (Lib.decDigits u).take 1 = [43] := fun e => not_digit (u := u) (c := 43) (by decide) (List.mem_of_mem_take (i := 1) (by rw [e]; simp))
  unfold psz_ok; rw [h1, decide_eq_false h2]; rfl
theorem mfold_recs {p tg : List UInt8} {z : Int} (hz : z ≤ 1099511627776) (P T : List UInt8) (Z : Int) :
    mfold (frecs p tg z) P T Z = some (if sok p = true then P else p, if 100 < tg.length then tg else T, if 8589934591 < z then z else Z) := by
  unfold frecs
  by_cases h3 : 8589934591 < z
  · have hu : z.toNat < 9223372036854775808 := by omega
    have e : ((z.toNat : Nat) : Int) = z := by omega
    by_cases h1 : 100 < tg.length <;> by_cases h2 : sok p = true <;> simp [h1, h2, h3, mfold, mstep, dec_pint hu, dec_pszok hu, e]
  · by_cases h1 : 100 < tg.length <;> by_cases h2 : sok p = true <;> simp [h1, h2, h3, mfold, mstep]
theorem mkind_ftyp {k : Int} (h : 0 ≤ k ∧ k ≤ 3) : mkind (ftyp k) = k := by
  obtain ⟨i, rfl⟩ := Int.eq_ofNat_of_zero_le h.1
  have hi : i < 4 := by omega
  have key : ∀ i : Fin 4, mkind (ftyp ((i.val : Nat) : Int)) = ((i.val : Nat) : Int) := by decide
  exact key ⟨i, hi⟩
/-- Merge inverts Plan. -/
theorem mres_plan {k m z : Int} {p tg : List UInt8} (e : fcheck k p m tg z = 0) :
    mres (fT (fcheck k p m tg z) k) (fN (fcheck k p m tg z) p) (fP (fcheck k p m tg z) p) (fL (fcheck k p m tg z) tg) (fM (fcheck k p m tg z) m) (fZ (fcheck k p m tg z) z) (fR (fcheck k p m tg z) p tg z) = some (p, tg, z) ∧ mkind (fT (fcheck k p m tg z) k) = k := by
  have hk : mkind (fT (fcheck k p m tg z) k) = k := by rw [fT, if_pos e]; exact mkind_ftyp (fcheck_kind e)
  refine ⟨?_, hk⟩
  unfold mres
  rw [hk]
  have hf : mfold (fR (fcheck k p m tg z) p tg z) (pjoin (fP (fcheck k p m tg z) p) (fN (fcheck k p m tg z) p)) (fL (fcheck k p m tg z) tg) (fZ (fcheck k p m tg z) z) = some (p, tg, z) := by
    rw [fR, if_pos e, mfold_recs (fcheck_size e).2, fP, if_pos e, fN, if_pos e, fL, if_pos e, fZ, if_pos e]
    congr 1
    refine Prod.ext ?_ (Prod.ext ?_ ?_)
    · show (if sok p = true then pjoin (spre p) (snam p) else p) = p
      by_cases h : sok p = true
      · rw [if_pos h]; exact (join_split h).1
      · rw [if_neg h]
    · show (if 100 < tg.length then tg else if 100 < tg.length then [] else tg) = tg
      by_cases h : 100 < tg.length
      · rw [if_pos h]
      · rw [if_neg h, if_neg h]
    · show (if 8589934591 < z then z else if 8589934591 < z then 0 else z) = z
      by_cases h : 8589934591 < z
      · rw [if_pos h]
      · rw [if_neg h, if_neg h]
  rw [hf]
  have hm : fM (fcheck k p m tg z) m = m := by rw [fM, if_pos e]
  exact if_pos (by rw [hm]; exact ⟨e, ⟨rfl, rfl, rfl, rfl, hm, rfl⟩, rfl⟩)
end Go.Xp
