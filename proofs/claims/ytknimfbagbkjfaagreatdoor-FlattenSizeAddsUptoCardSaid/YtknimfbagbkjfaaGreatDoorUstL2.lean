/- Layer 7: the laws UstarFields and UstarLimits. -/
import Derived.Test.YtknimfbagbkjfaaGreatDoorUstLaw

set_option linter.unusedSimpArgs false
set_option linter.unusedVariables false
namespace Go.Xp
open Go.Proofs

theorem byt_mid {A M C : List UInt8} {a i : Nat} (hA : A.length = a) (h1 : a ≤ i) (h2 : i < a + M.length) : byt (A ++ (M ++ C)) i = byt M (i - a) := by
  unfold byt
  congr 2
  simp only [List.getD_eq_getElem?_getD]
  rw [List.getElem?_append_right (by omega), List.getElem?_append_left (by omega), hA]
theorem sseal_byt {b : List UInt8} (hb : b.length = 512) {i : Nat} (hi : i < 512) (hn : ¬ (148 ≤ i ∧ i < 156)) : byt (sseal b) i = byt b i := by
  have hs : sseal b = b.take 148 ++ octf (ssum b) 7 ++ [32] ++ b.drop 156 := by unfold sseal; rw [if_pos hb]
  have h7 := oct7_len b
  rw [hs]
  unfold byt
  congr 2
  simp only [List.getD_eq_getElem?_getD]
  congr 1
  by_cases h1 : i < 148
  · rw [List.append_assoc, List.append_assoc, List.getElem?_append_left (by simp [hb]; omega), List.getElem?_take, if_pos h1]
  · rw [List.getElem?_append_right (by simp [hb, h7]; omega), List.getElem?_drop]
    congr 1
    simp [hb, h7]; omega
section
variable {t : Int} {name pre link : List UInt8} {mode size : Int}
theorem ulens (h : ucheck t name pre link mode size = 0) : (cfmt name 100).length = 100 ∧ (cfmt link 100).length = 100 ∧ (cfmt pre 155).length = 155 ∧ (octf mode 8).length = 8 ∧ (octf size 12).length = 12 := by
  obtain ⟨-, c1, c2, c3, hm, hs⟩ := ucheck_ok h
  exact ⟨cf_len (w := 100) c1, cf_len (w := 100) c2, cf_len (w := 155) c3, of_len (w := 8) (oerr_mode hm) (by decide), of_len (w := 12) (oerr_size hs) (by decide)⟩
theorem oz8 : (octf 0 8).length = 8 := by decide
theorem oz12 : (octf 0 12).length = 12 := by decide
theorem cz32 : (cfmt [] 32).length = 32 := by decide +kernel
theorem cz12 : (cfmt [] 12).length = 12 := by decide +kernel
/-- What the block holds outside of the checksum. -/
theorem uenc_byt (h : ucheck t name pre link mode size = 0) {i : Nat} (hi : i < 512) (hn : ¬ (148 ≤ i ∧ i < 156)) : byt (uenc t name pre link mode size) i = byt (ubody t name pre link mode size) i := by
  unfold uenc; rw [if_pos h]; exact sseal_byt (ubody_len h) hi hn
theorem ub_mid (A M C : List UInt8) {a i : Nat} (hb : ubody t name pre link mode size = A ++ (M ++ C)) (hA : A.length = a) (h1 : a ≤ i) (h2 : i < a + M.length) : byt (ubody t name pre link mode size) i = byt M (i - a) := by
  rw [hb]; exact byt_mid hA h1 h2
theorem ub_108 (h : ucheck t name pre link mode size = 0) {i : Nat} (h1 : 108 ≤ i) (h2 : i < 124) : byt (ubody t name pre link mode size) i = byt (octf 0 8 ++ octf 0 8) (i - 108) := by
  obtain ⟨k1, k2, k3, k4, k5⟩ := ulens h
  exact ub_mid (cfmt name 100 ++ octf mode 8) _ (octf size 12 ++ octf 0 12 ++ [32, 32, 32, 32, 32, 32, 32, 32] ++ [t.toNat.toUInt8] ++ cfmt link 100 ++ [117, 115, 116, 97, 114, 0, 48, 48] ++ cfmt [] 32 ++ cfmt [] 32 ++ octf 0 8 ++ octf 0 8 ++ cfmt pre 155 ++ cfmt [] 12) (by unfold ubody; simp only [List.append_assoc]) (by rw [List.length_append, k1, k4]) h1 (by rw [List.length_append, oz8]; omega)
theorem ub_136 (h : ucheck t name pre link mode size = 0) {i : Nat} (h1 : 136 ≤ i) (h2 : i < 148) : byt (ubody t name pre link mode size) i = byt (octf 0 12) (i - 136) := by
  obtain ⟨k1, k2, k3, k4, k5⟩ := ulens h
  exact ub_mid (cfmt name 100 ++ octf mode 8 ++ octf 0 8 ++ octf 0 8 ++ octf size 12) _ ([32, 32, 32, 32, 32, 32, 32, 32] ++ [t.toNat.toUInt8] ++ cfmt link 100 ++ [117, 115, 116, 97, 114, 0, 48, 48] ++ cfmt [] 32 ++ cfmt [] 32 ++ octf 0 8 ++ octf 0 8 ++ cfmt pre 155 ++ cfmt [] 12) (by unfold ubody; simp only [List.append_assoc]) (by simp only [List.length_append, k1, k4, oz8, k5]) h1 (by rw [oz12]; omega)
theorem ub_156 (h : ucheck t name pre link mode size = 0) : byt (ubody t name pre link mode size) 156 = byt [t.toNat.toUInt8] 0 := by
  obtain ⟨k1, k2, k3, k4, k5⟩ := ulens h
  exact ub_mid (i := 156) (cfmt name 100 ++ octf mode 8 ++ octf 0 8 ++ octf 0 8 ++ octf size 12 ++ octf 0 12 ++ [32, 32, 32, 32, 32, 32, 32, 32]) _ (cfmt link 100 ++ [117, 115, 116, 97, 114, 0, 48, 48] ++ cfmt [] 32 ++ cfmt [] 32 ++ octf 0 8 ++ octf 0 8 ++ cfmt pre 155 ++ cfmt [] 12) (by unfold ubody; simp only [List.append_assoc]) (a := 156) (by simp only [List.length_append, k1, k4, oz8, k5, oz12, List.length_cons, List.length_nil]) (Nat.le_refl _) (by simp only [List.length_cons, List.length_nil]; omega)
theorem ub_257 (h : ucheck t name pre link mode size = 0) {i : Nat} (h1 : 257 ≤ i) (h2 : i < 345) : byt (ubody t name pre link mode size) i = byt ([117, 115, 116, 97, 114, 0, 48, 48] ++ cfmt [] 32 ++ cfmt [] 32 ++ octf 0 8 ++ octf 0 8) (i - 257) := by
  obtain ⟨k1, k2, k3, k4, k5⟩ := ulens h
  exact ub_mid (cfmt name 100 ++ octf mode 8 ++ octf 0 8 ++ octf 0 8 ++ octf size 12 ++ octf 0 12 ++ [32, 32, 32, 32, 32, 32, 32, 32] ++ [t.toNat.toUInt8] ++ cfmt link 100) _ (cfmt pre 155 ++ cfmt [] 12) (by unfold ubody; simp only [List.append_assoc]) (by simp only [List.length_append, k1, k2, k4, oz8, k5, oz12, List.length_cons, List.length_nil]) h1 (by simp only [List.length_append, oz8, cz32, List.length_cons, List.length_nil]; omega)
theorem ub_500 (h : ucheck t name pre link mode size = 0) {i : Nat} (h1 : 500 ≤ i) (h2 : i < 512) : byt (ubody t name pre link mode size) i = byt (cfmt [] 12) (i - 500) := by
  obtain ⟨k1, k2, k3, k4, k5⟩ := ulens h
  exact ub_mid (cfmt name 100 ++ octf mode 8 ++ octf 0 8 ++ octf 0 8 ++ octf size 12 ++ octf 0 12 ++ [32, 32, 32, 32, 32, 32, 32, 32] ++ [t.toNat.toUInt8] ++ cfmt link 100 ++ [117, 115, 116, 97, 114, 0, 48, 48] ++ cfmt [] 32 ++ cfmt [] 32 ++ octf 0 8 ++ octf 0 8 ++ cfmt pre 155) _ [] (by unfold ubody; simp only [List.append_assoc, List.append_nil]) (by simp only [List.length_append, k1, k2, k3, k4, oz8, k5, oz12, cz32, List.length_cons, List.length_nil]) h1 (by rw [cz12]; omega)
end
theorem uenc_same {t t' : Int} {name pre link name' pre' link' : List UInt8} {mode size mode' size' : Int} (h : ucheck t name pre link mode size = 0) (h' : ucheck t' name' pre' link' mode' size' = 0) {i : Nat} (hi : i < 512)
    (hv : ¬ (i < 108 ∨ (124 ≤ i ∧ i < 136) ∨ (148 ≤ i ∧ i < 257) ∨ (345 ≤ i ∧ i < 500))) : byt (uenc t name pre link mode size) i = byt (uenc t' name' pre' link' mode' size') i := by
  rw [uenc_byt h hi (by omega), uenc_byt h' hi (by omega)]
  by_cases a1 : i < 124
  · rw [ub_108 h (by omega) a1, ub_108 h' (by omega) a1]
  · by_cases a2 : i < 148
    · rw [ub_136 h (by omega) a2, ub_136 h' (by omega) a2]
    · by_cases a3 : i < 345
      · rw [ub_257 h (by omega) a3, ub_257 h' (by omega) a3]
      · rw [ub_500 h (by omega) (by omega), ub_500 h' (by omega) (by omega)]
/-- A part of the block. -/
theorem sub_ext {b F s : List UInt8} {a : Nat} (hb : ∀ i, i < s.length → byt b (a + i) = byt s i) (hl : a + s.length ≤ b.length) : (b.take (a + s.length)).drop a = s := by
  apply byt_ext
  · simp; omega
  · intro k hk
    have hk' : k < s.length := by simp at hk; omega
    rw [← hb k hk', byt_eq hk, byt_eq (by omega)]
    simp
theorem cf_byt {s : List UInt8} {w : Nat} (h : cerr s (w : Int) = 0) {i : Nat} (hi : i < s.length) : byt (cfmt s (w : Int)) i = byt s i := by
  rw [← cf_ok h]
  unfold byt
  congr 2
  simp only [List.getD_eq_getElem?_getD]
  rw [List.getElem?_append_left hi]
theorem uf_name {t : Int} {name pre link : List UInt8} {mode size : Int} (h : ucheck t name pre link mode size = 0) : (uenc t name pre link mode size).take name.length = name := by
  obtain ⟨-, c1, c2, c3, hm, hs⟩ := ucheck_ok h
  have hn := cf_le (w := 100) c1
  obtain ⟨k1, k2, k3, k4, k5⟩ := ulens h
  have := sub_ext (F := []) (b := uenc t name pre link mode size) (s := name) (a := 0) (fun i hi => by
    rw [Nat.zero_add, uenc_byt h (by omega) (by omega)]
    rw [ub_mid (i := i) (a := 0) [] (cfmt name 100) (octf mode 8 ++ octf 0 8 ++ octf 0 8 ++ octf size 12 ++ octf 0 12 ++ [32, 32, 32, 32, 32, 32, 32, 32] ++ [t.toNat.toUInt8] ++ cfmt link 100 ++ [117, 115, 116, 97, 114, 0, 48, 48] ++ cfmt [] 32 ++ cfmt [] 32 ++ octf 0 8 ++ octf 0 8 ++ cfmt pre 155 ++ cfmt [] 12) (by unfold ubody; simp only [List.append_assoc, List.nil_append]) rfl (by omega) (by omega)]
    exact cf_byt (w := 100) c1 hi) (by rw [uenc_len h]; omega)
  simpa using this
theorem uf_link {t : Int} {name pre link : List UInt8} {mode size : Int} (h : ucheck t name pre link mode size = 0) : ((uenc t name pre link mode size).take (157 + link.length)).drop 157 = link := by
  obtain ⟨-, c1, c2, c3, hm, hs⟩ := ucheck_ok h
  have hn := cf_le (w := 100) c2
  obtain ⟨k1, k2, k3, k4, k5⟩ := ulens h
  refine sub_ext (F := []) (fun i hi => ?_) (by rw [uenc_len h]; omega)
  rw [uenc_byt h (by omega) (by omega)]
  rw [ub_mid (i := 157 + i) (a := 157) (cfmt name 100 ++ octf mode 8 ++ octf 0 8 ++ octf 0 8 ++ octf size 12 ++ octf 0 12 ++ [32, 32, 32, 32, 32, 32, 32, 32] ++ [t.toNat.toUInt8]) (cfmt link 100) ([117, 115, 116, 97, 114, 0, 48, 48] ++ cfmt [] 32 ++ cfmt [] 32 ++ octf 0 8 ++ octf 0 8 ++ cfmt pre 155 ++ cfmt [] 12) (by unfold ubody; simp only [List.append_assoc]) (by simp only [List.length_append, k1, k4, oz8, k5, oz12, List.length_cons, List.length_nil]) (by omega) (by omega), Nat.add_sub_cancel_left]
  exact cf_byt (w := 100) c2 hi
theorem uf_pre {t : Int} {name pre link : List UInt8} {mode size : Int} (h : ucheck t name pre link mode size = 0) : ((uenc t name pre link mode size).take (345 + pre.length)).drop 345 = pre := by
  obtain ⟨-, c1, c2, c3, hm, hs⟩ := ucheck_ok h
  have hn := cf_le (w := 155) c3
  obtain ⟨k1, k2, k3, k4, k5⟩ := ulens h
  refine sub_ext (F := []) (fun i hi => ?_) (by rw [uenc_len h]; omega)
  rw [uenc_byt h (by omega) (by omega)]
  rw [ub_mid (i := 345 + i) (a := 345) (cfmt name 100 ++ octf mode 8 ++ octf 0 8 ++ octf 0 8 ++ octf size 12 ++ octf 0 12 ++ [32, 32, 32, 32, 32, 32, 32, 32] ++ [t.toNat.toUInt8] ++ cfmt link 100 ++ [117, 115, 116, 97, 114, 0, 48, 48] ++ cfmt [] 32 ++ cfmt [] 32 ++ octf 0 8 ++ octf 0 8) (cfmt pre 155) (cfmt [] 12) (by unfold ubody; simp only [List.append_assoc]) (by simp only [List.length_append, k1, k2, k4, oz8, k5, oz12, cz32, List.length_cons, List.length_nil]) (by omega) (by omega), Nat.add_sub_cancel_left]
  exact cf_byt (w := 155) c3 hi
theorem uf_type {t : Int} {name pre link : List UInt8} {mode size : Int} (ht : 0 ≤ t ∧ t ≤ 255) (h : ucheck t name pre link mode size = 0) : byt (uenc t name pre link mode size) 156 = t := by
  rw [uenc_byt h (by decide) (by omega), ub_156 h]
  show ((t.toNat.toUInt8).toNat : Int) = t
  have : t.toNat < 256 := by omega
  rw [show (t.toNat.toUInt8).toNat = t.toNat % 256 from rfl, Nat.mod_eq_of_lt this]
  omega
theorem other_c : ucheck 48 [] [] [] 0 0 = 0 := by decide +kernel


end Go.Xp
