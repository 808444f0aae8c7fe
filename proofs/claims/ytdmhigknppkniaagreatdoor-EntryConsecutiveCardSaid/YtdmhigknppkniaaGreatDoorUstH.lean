/- Layer 7: what Decode answers about what Encode wrote (plain laws). -/
import Derived.Test.YtdmhigknppkniaaGreatDoorUstF
set_option linter.unusedSimpArgs false
set_option linter.unusedVariables false
set_option linter.unusedSectionVars false
namespace Go.Xp
open Go.Proofs

theorem u8_small {d : Nat} (h : d < 256) : (d.toUInt8).toNat = d := by
  show d % 256 = d
  exact Nat.mod_eq_of_lt h
theorem octN_octD : ∀ (k n : Nat), n < 8 ^ k → octN (octD n k) = n
  | 0, n, h => by
    have : n = 0 := by simpa using h
    subst this; rfl
  | k + 1, n, h => by
    rw [octD, octN_snoc, octN_octD k (n / 8) (by rw [Nat.pow_succ] at h; omega), u8_small (by omega)]
    omega
theorem octOk_octD : ∀ (k n : Nat), octOk (octD n k) = true
  | 0, _ => rfl
  | k + 1, n => by
    have h1 := octOk_octD k (n / 8)
    have h2 : octOk [(48 + n % 8).toUInt8] = true := by
      rw [octOk_iff]
      intro j hj
      have : j = 0 := by simpa using hj
      subst this
      show 48 ≤ (((48 + n % 8).toUInt8).toNat : Int) ∧ (((48 + n % 8).toUInt8).toNat : Int) ≤ 55
      rw [u8_small (by omega)]
      omega
    rw [octD]
    unfold octOk at h1 h2 ⊢
    rw [List.all_append, h1, h2]
    rfl
theorem oct_back {n w : Int} (h : oerr n w = 0) : operr (octf n w) = 0 ∧ opnum (octf n w) = n := by
  have hw : 2 ≤ w ∧ w ≤ 22 := by
    unfold oerr at h
    split at h
    · cases h
    · omega
  have hn : 0 ≤ n ∧ n ≤ omax w := by
    unfold oerr at h
    rw [if_neg (by omega)] at h
    split at h
    · cases h
    · omega
  have hf : octf n w = octD n.toNat (w.toNat - 1) ++ [0] := by unfold octf; rw [if_pos h]
  have hl : (octf n w).length = w.toNat := by rw [hf]; simp [octD_length]; omega
  have ht : (octf n w).take ((octf n w).length - 1) = octD n.toNat (w.toNat - 1) := by
    rw [hl, hf]; exact List.take_left' (octD_length _ _)
  have hlast : byt (octf n w) ((octf n w).length - 1) = 0 := by
    rw [hl, hf]
    unfold byt
    rw [List.getD_eq_getElem?_getD, List.getElem?_append_right (by simp [octD_length]), octD_length, Nat.sub_self]
    rfl
  have hp : operr (octf n w) = 0 := by
    unfold operr
    rw [if_neg (by rw [hl]; omega), if_pos ⟨hlast, by rw [ht]; exact octOk_octD _ _⟩]
  refine ⟨hp, ?_⟩
  unfold opnum
  rw [if_pos hp, ht, octN_octD]
  · omega
  · have h1 : (n : Int) < 8 ^ (w.toNat - 1) := by
      have := hn.2
      unfold omax at this
      rw [if_pos hw] at this
      omega
    have h2 : ((8 ^ (w.toNat - 1) : Nat) : Int) = (8 : Int) ^ (w.toNat - 1) := Int.natCast_pow 8 _
    omega
/-- Two blocks that agree outside of the checksum have the same seal. -/
theorem sseal_congr {a b : List UInt8} (ha : a.length = 512) (hb : b.length = 512) (h : ∀ k, k < 512 → ¬ (148 ≤ k ∧ k < 156) → byt a k = byt b k) : sseal a = sseal b := by
  have h' : ∀ k, ¬ (148 ≤ k ∧ k < 156) → byt a k = byt b k := fun k hk => by
    by_cases h5 : k < 512
    · exact h k h5 hk
    · unfold byt
      simp only [List.getD_eq_getElem?_getD]
      rw [List.getElem?_eq_none (by omega), List.getElem?_eq_none (by omega)]
  have h1 : a.take 148 = b.take 148 := byt_ext (by simp [ha, hb]) (fun k hk => by
    have hk2 : k < 148 := by simp at hk; omega
    rw [byt_take hk2 (by omega), byt_take hk2 (by omega)]
    exact h k (by omega) (by omega))
  have h2 : a.drop 156 = b.drop 156 := byt_ext (by simp [ha, hb]) (fun k hk => by
    have hk2 : k < 356 := by simp [ha] at hk; omega
    have := h (156 + k) (by omega) (by omega)
    unfold byt at this ⊢
    simp only [List.getD_eq_getElem?_getD, List.getElem?_drop] at this ⊢
    exact this)
  unfold sseal ssum
  rw [if_pos ha, if_pos hb, if_pos ha, if_pos hb, csumN_congr h', h1, h2]
theorem sseal_idem {b : List UInt8} (hb : b.length = 512) : sseal (sseal b) = sseal b :=
  sseal_congr (sseal_len hb) hb (fun k hk hn => sseal_byt hb hk hn)
theorem sver_seal {b : List UInt8} (hb : b.length = 512) : sver (sseal b) = 0 := by
  unfold sver
  rw [if_pos (sseal_len hb), if_pos (sseal_idem hb)]
section
variable {t : Int} {name pre link : List UInt8} {mode size : Int}
theorem ub_part (h : ucheck t name pre link mode size = 0) (A M C : List UInt8) {a : Nat} (hb : ubody t name pre link mode size = A ++ (M ++ C)) (hA : A.length = a) (hn : a + M.length ≤ 148 ∨ 156 ≤ a) : ((uenc t name pre link mode size).take (a + M.length)).drop a = M := by
  have hl := congrArg List.length hb
  rw [ubody_len h] at hl
  simp only [List.length_append] at hl
  refine sub_ext (F := []) (fun i hi => ?_) (by rw [uenc_len h]; omega)
  rw [uenc_byt h (by omega) (by omega), ub_mid A M C hb hA (by omega) (by omega), Nat.add_sub_cancel_left]
/-- Decode inverts Encode. -/
theorem dec_enc (ht : 0 ≤ t ∧ t ≤ 255) (h : ucheck t name pre link mode size = 0) : uderr (uenc t name pre link mode size) = 0 ∧ udT (uenc t name pre link mode size) = t ∧ udN (uenc t name pre link mode size) = name ∧ udP (uenc t name pre link mode size) = pre ∧ udL (uenc t name pre link mode size) = link ∧ udM (uenc t name pre link mode size) = mode ∧ udS (uenc t name pre link mode size) = size := by
  obtain ⟨hkn, c1, c2, c3, hm, hs⟩ := ucheck_ok h
  obtain ⟨k1, k2, k3, k4, k5⟩ := ulens h
  have f1 := ub_part h [] (cfmt name 100) (octf mode 8 ++ octf 0 8 ++ octf 0 8 ++ octf size 12 ++ octf 0 12 ++ [32, 32, 32, 32, 32, 32, 32, 32] ++ [t.toNat.toUInt8] ++ cfmt link 100 ++ [117, 115, 116, 97, 114, 0, 48, 48] ++ cfmt [] 32 ++ cfmt [] 32 ++ octf 0 8 ++ octf 0 8 ++ cfmt pre 155 ++ cfmt [] 12) (a := 0) (by unfold ubody; simp only [List.append_assoc, List.nil_append]) rfl (by rw [k1]; omega)
  have f2 := ub_part h (cfmt name 100) (octf mode 8) (octf 0 8 ++ octf 0 8 ++ octf size 12 ++ octf 0 12 ++ [32, 32, 32, 32, 32, 32, 32, 32] ++ [t.toNat.toUInt8] ++ cfmt link 100 ++ [117, 115, 116, 97, 114, 0, 48, 48] ++ cfmt [] 32 ++ cfmt [] 32 ++ octf 0 8 ++ octf 0 8 ++ cfmt pre 155 ++ cfmt [] 12) (a := 100) (by unfold ubody; simp only [List.append_assoc]) k1 (by rw [k4]; omega)
  have f3 := ub_part h (cfmt name 100 ++ octf mode 8 ++ octf 0 8 ++ octf 0 8) (octf size 12) (octf 0 12 ++ [32, 32, 32, 32, 32, 32, 32, 32] ++ [t.toNat.toUInt8] ++ cfmt link 100 ++ [117, 115, 116, 97, 114, 0, 48, 48] ++ cfmt [] 32 ++ cfmt [] 32 ++ octf 0 8 ++ octf 0 8 ++ cfmt pre 155 ++ cfmt [] 12) (a := 124) (by unfold ubody; simp only [List.append_assoc]) (by simp only [List.length_append, k1, k4, oz8]) (by rw [k5]; omega)
  have f4 := ub_part h (cfmt name 100 ++ octf mode 8 ++ octf 0 8 ++ octf 0 8 ++ octf size 12 ++ octf 0 12 ++ [32, 32, 32, 32, 32, 32, 32, 32] ++ [t.toNat.toUInt8]) (cfmt link 100) ([117, 115, 116, 97, 114, 0, 48, 48] ++ cfmt [] 32 ++ cfmt [] 32 ++ octf 0 8 ++ octf 0 8 ++ cfmt pre 155 ++ cfmt [] 12) (a := 157) (by unfold ubody; simp only [List.append_assoc]) (by simp only [List.length_append, k1, k4, k5, oz8, oz12, List.length_cons, List.length_nil]) (by omega)
  have f5 := ub_part h (cfmt name 100 ++ octf mode 8 ++ octf 0 8 ++ octf 0 8 ++ octf size 12 ++ octf 0 12 ++ [32, 32, 32, 32, 32, 32, 32, 32] ++ [t.toNat.toUInt8] ++ cfmt link 100 ++ [117, 115, 116, 97, 114, 0, 48, 48] ++ cfmt [] 32 ++ cfmt [] 32 ++ octf 0 8 ++ octf 0 8) (cfmt pre 155) (cfmt [] 12) (a := 345) (by unfold ubody; simp only [List.append_assoc]) (by simp only [List.length_append, k1, k2, k4, k5, oz8, oz12, cz32, List.length_cons, List.length_nil]) (by omega)
  rw [k1] at f1; rw [k2] at f4; rw [k3] at f5; rw [k4] at f2; rw [k5] at f3
  obtain ⟨a1, b1, -⟩ := parse_format (w := 100) c1
  obtain ⟨a2, b2, -⟩ := parse_format (w := 100) c2
  obtain ⟨a3, b3, -⟩ := parse_format (w := 155) c3
  obtain ⟨a4, b4⟩ := oct_back (oerr_mode hm)
  obtain ⟨a5, b5⟩ := oct_back (oerr_size hs)
  have g1 : ufl (uenc t name pre link mode size) 0 100 = cfmt name 100 := f1
  have g2 : ufl (uenc t name pre link mode size) 100 108 = octf mode 8 := f2
  have g3 : ufl (uenc t name pre link mode size) 124 136 = octf size 12 := f3
  have g4 : ufl (uenc t name pre link mode size) 157 257 = cfmt link 100 := f4
  have g5 : ufl (uenc t name pre link mode size) 345 500 = cfmt pre 155 := f5
  have e1 : udn (uenc t name pre link mode size) = name := by unfold udn; rw [g1, b1]
  have e2 : udl (uenc t name pre link mode size) = link := by unfold udl; rw [g4, b2]
  have e3 : udp (uenc t name pre link mode size) = pre := by unfold udp; rw [g5, b3]
  have e4 : udm (uenc t name pre link mode size) = mode := by unfold udm; rw [g2, b4]
  have e5 : uds (uenc t name pre link mode size) = size := by unfold uds; rw [g3, b5]
  have e6 := uf_type ht h
  have hv : sver (uenc t name pre link mode size) = 0 := by
    have : uenc t name pre link mode size = sseal (ubody t name pre link mode size) := by unfold uenc; rw [if_pos h]
    rw [this]; exact sver_seal (ubody_len h)
  have hq : uderr (uenc t name pre link mode size) = 0 := uderr_ok hv (by rw [e6]; simp [hkn]) ⟨by rw [g1, a1], by rw [g4, a2], by rw [g5, a3], by rw [g2, a4], by rw [g3, a5], by rw [e1, e2, e3, e4, e5, e6, h], by rw [e1, e2, e3, e4, e5, e6]⟩
  obtain ⟨q1, q2, q3, q4, q5, q6⟩ := ud_good hq
  exact ⟨hq, by rw [q1, e6], by rw [q2, e1], by rw [q3, e3], by rw [q4, e2], by rw [q5, e4], by rw [q6, e5]⟩
theorem udok_parts {b : List UInt8} (h : uderr b = 0) : sver b = 0 ∧ ucheck (udT b) (udN b) (udP b) (udL b) (udM b) (udS b) = 0 ∧ uenc (udT b) (udN b) (udP b) (udL b) (udM b) (udS b) = b := by
  obtain ⟨q1, q2, q3, q4, q5, q6⟩ := ud_good h
  rw [q1, q2, q3, q4, q5, q6]
  unfold uderr at h
  split at h
  · rename_i h1; exact absurd h h1
  · rename_i h1
    split at h
    · cases h
    · split at h
      · rename_i h2
        unfold udok at h2
        rw [decide_eq_true_eq] at h2
        exact ⟨Decidable.not_not.1 h1, h2.2.2.2.2.2.1, h2.2.2.2.2.2.2⟩
      · cases h
end
end Go.Xp
