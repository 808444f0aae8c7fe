/- Layer 10 (fit): the header and the records of a valid entry are valid. -/
import Derived.Test.YtdmhigknppkniaaGreatDoorRt
import Derived.Test.YtdmhigknppkniaaGreatDoorUstE
import Derived.Test.YtdmhigknppkniaaGreatDoorMergeP
import Derived.Test.YtdmhigknppkniaaGreatDoorUstQ
import Derived.Test.YtdmhigknppkniaaGreatDoorRws
set_option linter.unusedSimpArgs false
set_option linter.unusedVariables false
set_option linter.unusedSectionVars false
namespace Go.Xp
open Go.Proofs

theorem fcheck_size {k m z : Int} {p tg : List UInt8} (h : fcheck k p m tg z = 0) : 0 ≤ z ∧ z ≤ 1099511627776 := by
  unfold fcheck at h
  split at h
  · cases h
  · split at h
    · rename_i h1; exact absurd h h1
    · split at h
      · cases h
      · split at h
        · rename_i h1; exact absurd h h1
        · unfold fsize at h
          split at h
          · cases h
          · split at h
            · cases h
            · omega
theorem fcheck_target {k m z : Int} {p tg : List UInt8} (h : fcheck k p m tg z = 0) : ftarget k tg = 0 := by
  unfold fcheck at h
  split at h
  · cases h
  · split at h
    · rename_i h1; exact absurd h h1
    · split at h
      · cases h
      · split at h
        · rename_i h1; exact absurd h h1
        · rename_i h1; exact Classical.not_not.1 h1
theorem comps_mem : ∀ {p : List UInt8} {x : UInt8}, x ∈ p → x ≠ 47 → ∃ c ∈ comps p, x ∈ c
  | a :: l, x, h, hx => by
    unfold comps
    by_cases ha : a = 47
    · rw [if_pos ha]
      rcases List.mem_cons.1 h with e | h
      · exact absurd (e.trans ha) hx
      · obtain ⟨c, h1, h2⟩ := comps_mem h hx
        exact ⟨c, List.mem_cons_of_mem _ h1, h2⟩
    · rw [if_neg ha]
      cases hc : comps l with
      | nil => exact absurd hc (comps_ne l)
      | cons y ys =>
        simp only
        rcases List.mem_cons.1 h with e | h
        · exact ⟨_, List.mem_cons_self, by rw [e]; exact List.mem_cons_self⟩
        · obtain ⟨c, h1, h2⟩ := comps_mem h hx
          rw [hc] at h1
          rcases List.mem_cons.1 h1 with e | h1
          · exact ⟨_, List.mem_cons_self, by rw [← e]; exact List.mem_cons_of_mem _ h2⟩
          · exact ⟨c, List.mem_cons_of_mem _ h1, h2⟩
theorem pcheck_valid {p : List UInt8} (h : pcheck p = 0) : p.length ≤ 65536 ∧ p ≠ [] ∧ (0 : UInt8) ∉ p := by
  unfold pcheck at h
  split at h
  · cases h
  · split at h
    · rename_i h1 h2
      refine ⟨by omega, ?_, ?_⟩
      · rintro rfl; revert h2; decide
      · intro h0
        obtain ⟨c, h3, h4⟩ := comps_mem h0 (by decide)
        have := List.all_eq_true.1 h2 c h3
        unfold okc at this
        simp only [Bool.and_eq_true, Bool.not_eq_true', List.contains_eq_mem, decide_eq_false_iff_not] at this
        exact this.2 h4
    · cases h
theorem ftarget_valid {k : Int} {tg : List UInt8} (h : ftarget k tg = 0) : (0 : UInt8) ∉ tg ∧ tg.length ≤ 65536 := by
  unfold ftarget at h
  split at h
  · have := pcheck_valid h; exact ⟨this.2.2, this.1⟩
  · split at h
    · rw [rerr_path (by simp) (by simp)] at h
      split at h
      · cases h
      · split at h
        · cases h
        · rename_i h1 h2; exact ⟨fun e => h2 (.inr e), by omega⟩
    · split at h
      · cases h
      · rename_i h1; have := Classical.not_not.1 h1; rw [this]; simp
theorem fcheck_mode {k m z : Int} {p tg : List UInt8} (h : fcheck k p m tg z = 0) : 0 ≤ m ∧ m ≤ 4095 := by
  unfold fcheck at h
  split at h
  · cases h
  · split at h
    · rename_i h1; exact absurd h h1
    · split at h
      · cases h
      · omega
theorem rerr_plain {k v : List UInt8} (h : k ∈ [[108, 105, 110, 107, 112, 97, 116, 104], [112, 97, 116, 104], [115, 105, 122, 101]]) (h2 : ¬ k = [115, 105, 122, 101]) (h3 : v.length ≤ 65536) (h4 : v ≠ []) (h5 : (0 : UInt8) ∉ v) : rerr k v = 0 := by
  rw [rerr_path h h2, if_neg (by omega), if_neg (fun e => e.elim h4 h5)]
theorem rlerr_plan {k m z : Int} {p tg : List UInt8} (e : fcheck k p m tg z = 0) : rlerr none (fR (fcheck k p m tg z) p tg z) = 0 := by
  rw [fR, if_pos e]
  have hz := fcheck_size e
  have hp := pcheck_valid (fcheck_path e)
  have ht := ftarget_valid (fcheck_target e)
  have e2 : rerr [112, 97, 116, 104] p = 0 := rerr_plain (by simp) (by decide) hp.1 hp.2.1 hp.2.2
  have e3 : rerr [115, 105, 122, 101] (Lib.decDigits z.toNat) = 0 := by unfold rerr; rw [if_pos rfl]; exact nerr_dec (by omega)
  have o1 : sle [112, 97, 116, 104] [108, 105, 110, 107, 112, 97, 116, 104] = false := by decide
  have o2 : sle [115, 105, 122, 101] [108, 105, 110, 107, 112, 97, 116, 104] = false := by decide
  have o3 : sle [115, 105, 122, 101] [112, 97, 116, 104] = false := by decide
  unfold frecs
  by_cases h1 : 100 < tg.length
  · have e1 : rerr [108, 105, 110, 107, 112, 97, 116, 104] tg = 0 := rerr_plain (by simp) (by decide) ht.2 (fun e => by rw [e] at h1; simp at h1) ht.1
    by_cases h2 : sok p = true <;> by_cases h3 : 8589934591 < z <;> simp [h1, h2, h3, rlerr, e1, e2, e3, ordBad, o1, o2, o3]
  · by_cases h2 : sok p = true <;> by_cases h3 : 8589934591 < z <;> simp [h1, h2, h3, rlerr, e2, e3, ordBad, o1, o2, o3]
theorem snam_sub {p : List UInt8} {x : UInt8} (h : x ∈ snam p) : x ∈ p := by
  unfold snam at h
  split at h
  · exact h
  · split at h
    · cases h
    · exact List.mem_of_mem_drop h
theorem spre_sub {p : List UInt8} {x : UInt8} (h : x ∈ spre p) : x ∈ p := by
  unfold spre at h
  split at h
  · cases h
  · split at h
    · cases h
    · exact List.mem_of_mem_take h
theorem uknown_ftyp {k : Int} (h : 0 ≤ k ∧ k ≤ 3) : uknown (ftyp k) = true := by
  obtain ⟨i, rfl⟩ := Int.eq_ofNat_of_zero_le h.1
  have hi : i < 4 := by omega
  have key : ∀ i : Fin 4, uknown (ftyp ((i.val : Nat) : Int)) = true := by decide
  exact key ⟨i, hi⟩
theorem cerr_ok {s : List UInt8} {w : Nat} (h0 : (0 : UInt8) ∉ s) (hl : s.length ≤ w) (hw : 1 ≤ w ∧ w ≤ 256) : cerr s (w : Int) = 0 := by
  unfold cerr; rw [if_neg (by omega), if_neg h0, if_neg (by omega)]
theorem ucheck_plan {k m z : Int} {p tg : List UInt8} (e : fcheck k p m tg z = 0) :
    ucheck (fT (fcheck k p m tg z) k) (fN (fcheck k p m tg z) p) (fP (fcheck k p m tg z) p) (fL (fcheck k p m tg z) tg) (fM (fcheck k p m tg z) m) (fZ (fcheck k p m tg z) z) = 0 := by
  have hz := fcheck_size e
  have hm := fcheck_mode e
  have hp := pcheck_valid (fcheck_path e)
  have ht := ftarget_valid (fcheck_target e)
  rw [fT, if_pos e, fN, if_pos e, fP, if_pos e, fL, if_pos e, fM, if_pos e, fZ, if_pos e]
  have hs : (snam p).length ≤ 100 ∧ (spre p).length ≤ 155 := by
    by_cases h : sok p = true
    · have := join_split h; exact ⟨this.2.1, this.2.2.1⟩
    · have := sok_nil (by simpa using h : sok p = false); rw [this.1, this.2]; simp
  have c1 : cerr (snam p) 100 = 0 := cerr_ok (w := 100) (fun h => hp.2.2 (snam_sub h)) hs.1 (by decide)
  have c2 : cerr (spre p) 155 = 0 := cerr_ok (w := 155) (fun h => hp.2.2 (spre_sub h)) hs.2 (by decide)
  have c3 : cerr (if 100 < tg.length then [] else tg) 100 = 0 := by
    by_cases h : 100 < tg.length
    · rw [if_pos h]; decide
    · rw [if_neg h]; exact cerr_ok (w := 100) ht.1 (by omega) (by decide)
  unfold ucheck
  rw [if_neg (by rw [uknown_ftyp (fcheck_kind e)]; decide), if_neg (by rw [c1]; decide), if_neg (by rw [c3]; decide), if_neg (by rw [c2]; decide), if_neg (by omega), if_neg (by split <;> omega)]
theorem nDigits_le_succ : ∀ u : Nat, Lib.nDigits u ≤ u + 1 := by
  intro u
  induction u using Nat.strongRecOn with
  | ind u ih =>
    rcases Nat.lt_or_ge u 10 with h | h
    · rw [Lib.nDigits_small h]; omega
    · rw [Lib.nDigits_big (by omega)]; have := ih (u / 10) (by omega); omega
theorem fT_range (c k : Int) : 0 ≤ fT c k ∧ fT c k ≤ 255 := by
  unfold fT
  split
  · exact byt_lt _ _
  · omega
theorem fR_good {k m z : Int} {p tg : List UInt8} (e : fcheck k p m tg z = 0) (hp : p.length ≤ 70000) (ht : tg.length ≤ 70000) : ∀ r ∈ fR (fcheck k p m tg z) p tg z, r.key.length ≤ 140737488355328 ∧ r.val.length ≤ 140737488355328 := by
  have hz := fcheck_size e
  have hn := nDigits_le_succ z.toNat
  rw [fR, if_pos e]
  unfold frecs
  intro r hr
  simp only [List.mem_append] at hr
  rcases hr with hr | hr | hr
  · split at hr
    · rw [List.mem_singleton.1 hr]; exact ⟨by show 8 ≤ _; decide, by show tg.length ≤ _; omega⟩
    · cases hr
  · split at hr
    · cases hr
    · rw [List.mem_singleton.1 hr]; exact ⟨by show 4 ≤ _; decide, by show p.length ≤ _; omega⟩
  · split at hr
    · rw [List.mem_singleton.1 hr]; exact ⟨by show 4 ≤ _; decide, by show (Lib.decDigits z.toNat).length ≤ _; rw [Lib.decDigits_length]; omega⟩
    · cases hr
end Go.Xp

/- Layer 10 (fit): Merge, plain laws. -/
set_option linter.unusedSimpArgs false
set_option linter.unusedVariables false
set_option linter.unusedSectionVars false
namespace Go.Xp
open Go.Proofs

theorem dec_pint {u : Nat} (h : u < 9223372036854775808) : pint (Lib.decDigits u) = u := by
  unfold pint; rw [parseI (dec_ok u) (dec_ne u), if_pos (by rw [decN_dec]; exact h), decN_dec]
theorem dec_pszok {u : Nat} (h : u < 9223372036854775808) : psz_ok (Lib.decDigits u) = true := by
  have h1 : pbad (Lib.decDigits u) = false := by unfold pbad; rw [parseI (dec_ok u) (dec_ne u), if_pos (by rw [decN_dec]; exact h)]
  have h2 : ¬ (Lib.decDigits u).take 1 = [43] := fun e => not_digit (u := u) (c := 43) (by decide) (List.mem_of_mem_take (i := 1) (by rw [e]; simp))
  unfold psz_ok; rw [h1, decide_eq_false h2]; rfl
theorem mfold_recs {p tg : List UInt8} {z : Int} (hz : z ≤ 1099511627776) (P T : List UInt8) (Z : Int) :
    mfold (frecs p tg z) P T Z = some (if sok p = true then P else p, if 100 < tg.length then tg else T, if 8589934591 < z then z else Z) := by
  unfold frecs
  by_cases h3 : 8589934591 < z
  · have hu : z.toNat < 9223372036854775808 := by omega
    have e : ((z.toNat : Nat) : Int) = z := by omega
    by_cases h1 : 100 < tg.length <;> by_cases h2 : sok p = true <;> simp [h1, h2, h3, mfold, mstep, dec_pint hu, dec_pszok hu, e]
  · by_cases h1 : 100 < tg.length <;> by_cases h2 : sok p = true <;> simp [h1, h2, h3, mfold, mstep]
theorem mkind_ftyp {k : Int} (h : 0 ≤ k ∧ k ≤ 3) : mkind (ftyp k) = k := by
  obtain ⟨i, rfl⟩ := Int.eq_ofNat_of_zero_le h.1
  have hi : i < 4 := by omega
  have key : ∀ i : Fin 4, mkind (ftyp ((i.val : Nat) : Int)) = ((i.val : Nat) : Int) := by decide
  exact key ⟨i, hi⟩
/-- Merge inverts Plan. -/
theorem mres_plan {k m z : Int} {p tg : List UInt8} (e : fcheck k p m tg z = 0) :
    mres (fT (fcheck k p m tg z) k) (fN (fcheck k p m tg z) p) (fP (fcheck k p m tg z) p) (fL (fcheck k p m tg z) tg) (fM (fcheck k p m tg z) m) (fZ (fcheck k p m tg z) z) (fR (fcheck k p m tg z) p tg z) = some (p, tg, z) ∧ mkind (fT (fcheck k p m tg z) k) = k := by
  have hk : mkind (fT (fcheck k p m tg z) k) = k := by rw [fT, if_pos e]; exact mkind_ftyp (fcheck_kind e)
  refine ⟨?_, hk⟩
  unfold mres
  rw [hk]
  have hf : mfold (fR (fcheck k p m tg z) p tg z) (pjoin (fP (fcheck k p m tg z) p) (fN (fcheck k p m tg z) p)) (fL (fcheck k p m tg z) tg) (fZ (fcheck k p m tg z) z) = some (p, tg, z) := by
    rw [fR, if_pos e, mfold_recs (fcheck_size e).2, fP, if_pos e, fN, if_pos e, fL, if_pos e, fZ, if_pos e]
    congr 1
    refine Prod.ext ?_ (Prod.ext ?_ ?_)
    · show (if sok p = true then pjoin (spre p) (snam p) else p) = p
      by_cases h : sok p = true
      · rw [if_pos h]; exact (join_split h).1
      · rw [if_neg h]
    · show (if 100 < tg.length then tg else if 100 < tg.length then [] else tg) = tg
      by_cases h : 100 < tg.length
      · rw [if_pos h]
      · rw [if_neg h, if_neg h]
    · show (if 8589934591 < z then z else if 8589934591 < z then 0 else z) = z
      by_cases h : 8589934591 < z
      · rw [if_pos h]
      · rw [if_neg h, if_neg h]
  rw [hf]
  have hm : fM (fcheck k p m tg z) m = m := by rw [fM, if_pos e]
  exact if_pos (by rw [hm]; exact ⟨e, ⟨rfl, rfl, rfl, rfl, hm, rfl⟩, rfl⟩)
end Go.Xp

/- Layer 7: the laws' own texts that do not reach Decode. -/
set_option linter.unusedSimpArgs false
set_option linter.unusedVariables false
namespace Go.Xp
open Go.Proofs

theorem ubody_len {t : Int} {name pre link : List UInt8} {mode size : Int} (h : ucheck t name pre link mode size = 0) : (ubody t name pre link mode size).length = 512 := by
  obtain ⟨-, c1, c2, c3, hm, hs⟩ := ucheck_ok h
  have k1 : (cfmt name 100).length = 100 := cf_len (w := 100) c1
  have k2 : (cfmt link 100).length = 100 := cf_len (w := 100) c2
  have k3 : (cfmt pre 155).length = 155 := cf_len (w := 155) c3
  have l1 : (octf mode 8).length = 8 := of_len (w := 8) (oerr_mode hm) (by decide)
  have l2 : (octf size 12).length = 12 := of_len (w := 12) (oerr_size hs) (by decide)
  have l3 : (octf 0 8).length = 8 := of_len (n := 0) (w := 8) (by decide) (by decide)
  have l4 : (octf 0 12).length = 12 := of_len (n := 0) (w := 12) (by decide) (by decide)
  have z1 : (cfmt [] 32).length = 32 := cf_len (s := []) (w := 32) (by decide)
  have z2 : (cfmt [] 12).length = 12 := cf_len (s := []) (w := 12) (by decide)
  unfold ubody
  simp only [List.length_append, k1, k2, k3, l1, l2, l3, l4, z1, z2, List.length_cons, List.length_nil]
theorem uenc_len {t : Int} {name pre link : List UInt8} {mode size : Int} (h : ucheck t name pre link mode size = 0) : (uenc t name pre link mode size).length = 512 := by
  unfold uenc; rw [if_pos h]; exact sseal_len (ubody_len h)
end Go.Xp

/- Layer 7: the laws UstarFields and UstarLimits. -/

set_option linter.unusedSimpArgs false
set_option linter.unusedVariables false
namespace Go.Xp
open Go.Proofs

theorem byt_mid {A M C : List UInt8} {a i : Nat} (hA : A.length = a) (h1 : a ≤ i) (h2 : i < a + M.length) : byt (A ++ (M ++ C)) i = byt M (i - a) := by
  unfold byt
  congr 2
  simp only [List.getD_eq_getElem?_getD]
  rw [List.getElem?_append_right (by omega), List.getElem?_append_left (by omega), hA]
theorem sseal_byt {b : List UInt8} (hb : b.length = 512) {i : Nat} (hi : i < 512) (hn : ¬ (148 ≤ i ∧ i < 156)) : byt (sseal b) i = byt b i := by
  have hs : sseal b = b.take 148 ++ octf (ssum b) 7 ++ [32] ++ b.drop 156 := by unfold sseal; rw [if_pos hb]
  have h7 := oct7_len b
  rw [hs]
  unfold byt
  congr 2
  simp only [List.getD_eq_getElem?_getD]
  congr 1
  by_cases h1 : i < 148
  · rw [List.append_assoc, List.append_assoc, List.getElem?_append_left (by simp [hb]; omega), List.getElem?_take, if_pos h1]
  · rw [List.getElem?_append_right (by simp [hb, h7]; omega), List.getElem?_drop]
    congr 1
    simp [hb, h7]; omega
section
variable {t : Int} {name pre link : List UInt8} {mode size : Int}
theorem ulens (h : ucheck t name pre link mode size = 0) : (cfmt name 100).length = 100 ∧ (cfmt link 100).length = 100 ∧ (cfmt pre 155).length = 155 ∧ (octf mode 8).length = 8 ∧ (octf size 12).length = 12 := by
  obtain ⟨-, c1, c2, c3, hm, hs⟩ := ucheck_ok h
  exact ⟨cf_len (w := 100) c1, cf_len (w := 100) c2, cf_len (w := 155) c3, of_len (w := 8) (oerr_mode hm) (by decide), of_len (w := 12) (oerr_size hs) (by decide)⟩
theorem oz8 : (octf 0 8).length = 8 := by decide
theorem oz12 : (octf 0 12).length = 12 := by decide
theorem cz32 : (cfmt [] 32).length = 32 := by decide +kernel
/-- What the block holds outside of the checksum. -/
theorem uenc_byt (h : ucheck t name pre link mode size = 0) {i : Nat} (hi : i < 512) (hn : ¬ (148 ≤ i ∧ i < 156)) : byt (uenc t name pre link mode size) i = byt (ubody t name pre link mode size) i := by
  unfold uenc; rw [if_pos h]; exact sseal_byt (ubody_len h) hi hn
theorem ub_mid (A M C : List UInt8) {a i : Nat} (hb : ubody t name pre link mode size = A ++ (M ++ C)) (hA : A.length = a) (h1 : a ≤ i) (h2 : i < a + M.length) : byt (ubody t name pre link mode size) i = byt M (i - a) := by
  rw [hb]; exact byt_mid hA h1 h2
theorem ub_156 (h : ucheck t name pre link mode size = 0) : byt (ubody t name pre link mode size) 156 = byt [t.toNat.toUInt8] 0 := by
  obtain ⟨k1, k2, k3, k4, k5⟩ := ulens h
  exact ub_mid (i := 156) (cfmt name 100 ++ octf mode 8 ++ octf 0 8 ++ octf 0 8 ++ octf size 12 ++ octf 0 12 ++ [32, 32, 32, 32, 32, 32, 32, 32]) _ (cfmt link 100 ++ [117, 115, 116, 97, 114, 0, 48, 48] ++ cfmt [] 32 ++ cfmt [] 32 ++ octf 0 8 ++ octf 0 8 ++ cfmt pre 155 ++ cfmt [] 12) (by unfold ubody; simp only [List.append_assoc]) (a := 156) (by simp only [List.length_append, k1, k4, oz8, k5, oz12, List.length_cons, List.length_nil]) (Nat.le_refl _) (by simp only [List.length_cons, List.length_nil]; omega)
end
/-- A part of the block. -/
theorem sub_ext {b F s : List UInt8} {a : Nat} (hb : ∀ i, i < s.length → byt b (a + i) = byt s i) (hl : a + s.length ≤ b.length) : (b.take (a + s.length)).drop a = s := by
  apply byt_ext
  · simp; omega
  · intro k hk
    have hk' : k < s.length := by simp at hk; omega
    rw [← hb k hk', byt_eq hk, byt_eq (by omega)]
    simp
theorem uf_type {t : Int} {name pre link : List UInt8} {mode size : Int} (ht : 0 ≤ t ∧ t ≤ 255) (h : ucheck t name pre link mode size = 0) : byt (uenc t name pre link mode size) 156 = t := by
  rw [uenc_byt h (by decide) (by omega), ub_156 h]
  show ((t.toNat.toUInt8).toNat : Int) = t
  have : t.toNat < 256 := by omega
  rw [show (t.toNat.toUInt8).toNat = t.toNat % 256 from rfl, Nat.mod_eq_of_lt this]
  omega
end Go.Xp

/- Slices of slices of bytes; parts of a row of the call's own. -/
set_option linter.unusedSimpArgs false
set_option linter.unusedVariables false
set_option linter.unusedSectionVars false
namespace Go.Xp

structure Byt where
  dv : Value
  data : List UInt8
def bytS : Sch Byt where
  z := 1
  pos := by decide
  cells x := [x.dv]
  len _ := rfl
  ok h x := Bytes h x.dv x.data
  one o u hu := by simp at hu; rw [hu]; exact o.cell1
  only o y hb := o.only y (fun b h => hb _ (by simp) b h)
  d := ⟨.slice none 0 0, []⟩
def at_byt (l : List Byt) (k : Nat) : Byt := l.getD k bytS.d
theorem Own.cuth {h : Heap} {base n k : Nat} {v : Value} {xs : List Value} (x : Own h base 1 v n xs) (hk : k ≤ n) : Own h base 1 (slcut 1 0 k v) k (xs.take k) := by
  obtain ⟨h1, ⟨rfl, rfl⟩ | ⟨g, cap, extra, rfl, hg, hb, hl, hn⟩⟩ := x
  · have : k = 0 := by omega
    subst this
    exact ⟨by simp, .inl ⟨rfl, rfl⟩⟩
  · refine ⟨by simp at h1 ⊢; omega, .inr ⟨g, cap, xs.drop k ++ extra, ?_, hg, ?_, ?_, by omega⟩⟩
    · show Value.slice (if cap = 0 then some _ else (some (⟨g, 0, none⟩ : Addr)).map (·.add (0 * 1))) (k - 0) (cap - 0) = _
      have e : (⟨g, 0, none⟩ : Addr).add (0 * 1) = ⟨g, 0, none⟩ := by unfold Addr.add; split <;> simp_all
      by_cases hc : cap = 0
      · rw [if_pos hc]; rfl
      · rw [if_neg hc, Option.map_some, e]; rfl
    · rw [← List.append_assoc, List.take_append_drop]; exact hb
    · rw [← List.append_assoc, List.take_append_drop]; exact hl
theorem OwnB.cuth {h : Heap} {base k : Nat} {v : Value} {l : List UInt8} (x : OwnB h base v l) (hk : k ≤ l.length) : OwnB h base (slcut 1 0 k v) (l.take k) := by
  have := Own.cuth x hk
  unfold OwnB
  rw [List.length_take, Nat.min_eq_left hk, List.map_take]; exact this
theorem slice_form {h : Heap} {v : Value} {l : List UInt8} (b : Bytes h v l) : ∃ x n c, v = .slice x n c := by
  obtain ⟨⟨a0, cap, rfl, _⟩, _⟩ := b; exact ⟨_, _, _, rfl⟩
section
variable {P : Program} {n : Nat} {e : Env} {h : Heap} {d : Option Tmp} {t : TypeId} {pos : String} {af : Array Edge} {g : Option (Nat × Bool)} {T E : TypeId} {x : Operand}
theorem Y_capnil (hT : P.underlying T = some (.slice E)) (hx : ev e x = some (.slice none 0 0)) : Yld P n e h ⟨d, .call { callee := .builtin .cap, args := #[x], argTypes := #[T] }, t, pos, af, g⟩ (.int .i64 0) := fun w a _ he => by
  refine run_blt rfl ?_
  simp [he.eval hx, Builtin.cap_, run_underlying hT, goInt]
end
/-- The first n slices' bytes, one after the other. -/
def bcat (l : List Byt) (n : Nat) : List UInt8 := (l.take n).flatMap (·.data)
theorem at_byt_eq {l : List Byt} {i : Nat} (h : i < l.length) : at_byt l i = l[i] := by
  rw [at_byt, List.getD_eq_getElem?_getD, List.getElem?_eq_getElem h]; rfl
theorem bcat_succ {l : List Byt} {i : Nat} (h : i < l.length) : bcat l (i + 1) = bcat l i ++ (at_byt l i).data := by
  unfold bcat
  rw [List.take_succ_eq_append_getElem h, List.flatMap_append, ← at_byt_eq h]; simp
theorem bcat_le {l : List Byt} {i : Nat} (h : i ≤ l.length) : (bcat l i).length ≤ (bcat l l.length).length := by
  have : bcat l l.length = bcat l i ++ (l.drop i).flatMap (·.data) := by
    unfold bcat; rw [List.take_length, ← List.flatMap_append, List.take_append_drop]
  rw [this, List.length_append]; omega
theorem bcat_four (v1 v2 v3 v4 : Value) (a b c d : List UInt8) : bcat [⟨v1, a⟩, ⟨v2, b⟩, ⟨v3, c⟩, ⟨v4, d⟩] ([⟨v1, a⟩, ⟨v2, b⟩, ⟨v3, c⟩, ⟨v4, d⟩] : List Byt).length = a ++ b ++ c ++ d := by
  simp [bcat]
end Go.Xp

/- Layer 12 (entry): what Encode answers. -/
set_option linter.unusedSimpArgs false
set_option linter.unusedVariables false
set_option linter.unusedSectionVars false
namespace Go.Xp
open Go.Proofs

/-- How many bytes pad n bytes to a whole number of blocks. -/
def padn (n : Nat) : Nat := (512 - n % 512) % 512
def epre (l : List Rec) : List UInt8 :=
  if l = [] then [] else uenc 120 [112, 97, 120] [] [] 0 ((rfmt l).length : Int) ++ rfmt l ++ List.replicate (padn (rfmt l).length) 0
def eenc (k : Int) (p : List UInt8) (m : Int) (tg : List UInt8) (z : Int) : List UInt8 :=
  if fcheck k p m tg z = 0 then epre (fR (fcheck k p m tg z) p tg z) ++ uenc (fT (fcheck k p m tg z) k) (fN (fcheck k p m tg z) p) (fP (fcheck k p m tg z) p) (fL (fcheck k p m tg z) tg) (fM (fcheck k p m tg z) m) (fZ (fcheck k p m tg z) z) else []
theorem rlerr_each : ∀ {l : List Rec} {p : Option (List UInt8)}, rlerr p l = 0 → ∀ r ∈ l, rerr r.key r.val = 0
  | [], _, _, r, hr => by cases hr
  | x :: l, p, h, r, hr => by
    unfold rlerr at h
    split at h
    · rename_i h1; exact absurd h h1
    · rename_i h1
      split at h
      · cases h
      · rcases List.mem_cons.1 hr with e | hr
        · rw [e]; exact Classical.not_not.1 h1
        · exact rlerr_each h r hr
theorem flat_le : ∀ {l : List Rec}, (∀ r ∈ l, rerr r.key r.val = 0) → (l.flatMap rone).length ≤ 65600 * l.length
  | [], _ => by simp
  | x :: l, h => by
    have h1 := rone_len (h x (by simp))
    have h2 := flat_le (l := l) (fun r hr => h r (by simp [hr]))
    rw [List.flatMap_cons, List.length_append, List.length_cons]; omega
theorem flat_ge : ∀ {l : List Rec}, l ≠ [] → 1 ≤ (l.flatMap rone).length
  | [], h => absurd rfl h
  | x :: l, _ => by
    rw [List.flatMap_cons, List.length_append]
    have : 1 ≤ (rone x).length := by unfold rone; simp; omega
    omega
theorem fR_len3 (c : Int) (p tg : List UInt8) (z : Int) : (fR c p tg z).length ≤ 3 := by
  unfold fR frecs
  split
  · simp only [List.length_append]; split <;> split <;> split <;> simp
  · simp
section
variable {k m z : Int} {p tg : List UInt8}
theorem rfmt_le (e : fcheck k p m tg z = 0) : (rfmt (fR (fcheck k p m tg z) p tg z)).length ≤ 196800 := by
  have h1 := rlerr_plan e
  have h2 := flat_le (rlerr_each h1)
  have h3 := fR_len3 (fcheck k p m tg z) p tg z
  unfold rfmt
  rw [if_pos h1]
  have := Nat.mul_le_mul_left 65600 h3
  omega
theorem rfmt_ge (e : fcheck k p m tg z = 0) (hne : fR (fcheck k p m tg z) p tg z ≠ []) : 1 ≤ (rfmt (fR (fcheck k p m tg z) p tg z)).length := by
  unfold rfmt
  rw [if_pos (rlerr_plan e)]; exact flat_ge hne
end
theorem ext_ok {n : Nat} (h : n ≤ 196800) : ucheck 120 [112, 97, 120] [] [] 0 (n : Int) = 0 := by
  have c1 : cerr [112, 97, 120] 100 = 0 := by decide
  have c2 : cerr [] 100 = 0 := by decide
  have c3 : cerr [] 155 = 0 := by decide
  unfold ucheck
  rw [if_neg (by decide), if_neg (by rw [c1]; decide), if_neg (by rw [c2]; decide), if_neg (by rw [c3]; decide), if_neg (by omega), if_neg (by omega)]
theorem padn_lt (n : Nat) : padn n < 512 ∧ (n + padn n) % 512 = 0 := by unfold padn; omega
theorem blocks_pad {n : Nat} (h : 1 ≤ n) : (((n : Int) - 1) / 512 + 1) * 512 - (n : Int) = (padn n : Int) := by unfold padn; omega
theorem fcheck_lens {k m z : Int} {p tg : List UInt8} (e : fcheck k p m tg z = 0) : p.length ≤ 65536 ∧ tg.length ≤ 65536 := ⟨(pcheck_valid (fcheck_path e)).1, (ftarget_valid (fcheck_target e)).2⟩
theorem eenc_len {k m z : Int} {p tg : List UInt8} (e : fcheck k p m tg z = 0) : (eenc k p m tg z).length = (if fR (fcheck k p m tg z) p tg z = [] then 0 else 512 + ((rfmt (fR (fcheck k p m tg z) p tg z)).length + padn (rfmt (fR (fcheck k p m tg z) p tg z)).length)) + 512 := by
  unfold eenc
  rw [if_pos e, List.length_append, uenc_len (ucheck_plan e)]
  unfold epre
  split
  · rfl
  · rw [List.length_append, List.length_append, uenc_len (ext_ok (rfmt_le e)), List.length_replicate]; omega
end Go.Xp

/- Layer 12 (entry): how long an encoding is, and how it begins. -/
set_option linter.unusedSimpArgs false
set_option linter.unusedVariables false
set_option linter.unusedSectionVars false
namespace Go.Xp
open Go.Proofs

section
variable {k m z : Int} {p tg : List UInt8}
theorem eenc_short (e : fcheck k p m tg z = 0) (hne : fR (fcheck k p m tg z) p tg z = []) : (eenc k p m tg z).length = 512 := by
  rw [eenc_len e, if_pos hne]
theorem eenc_none (e : ¬ fcheck k p m tg z = 0) : eenc k p m tg z = [] := if_neg e
end
end Go.Xp
