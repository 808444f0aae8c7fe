/- Decimal numbers: a numeral and its value. -/
import Derived.Test.YtknimfbagbkjfaaGreatDoorRecF
import Derived.Test.YtknimfbagbkjfaaGreatDoorPath
set_option linter.unusedSimpArgs false
set_option linter.unusedVariables false
set_option linter.unusedSectionVars false
namespace Go.Xp
open Go.Proofs

theorem decN_dec : ∀ u : Nat, decN (Lib.decDigits u) = u := by
  intro u
  induction u using Nat.strongRecOn with
  | ind u ih =>
    rcases Nat.lt_or_ge u 10 with h | h
    · rw [Lib.decDigits_one h]
      have : (UInt8.ofNat (48 + u)).toNat = 48 + u := by rw [UInt8.toNat_ofNat']; omega
      show 0 * 10 + ((UInt8.ofNat (48 + u)).toNat - 48) = u
      rw [this]; omega
    · rw [decDigits_step h, decN_snoc, ih (u / 10) (by omega)]
      have : (UInt8.ofNat (48 + u % 10)).toNat = 48 + u % 10 := by rw [UInt8.toNat_ofNat']; omega
      rw [this]; omega
theorem dec_inj {a b : Nat} (h : Lib.decDigits a = Lib.decDigits b) : a = b := by rw [← decN_dec a, h, decN_dec]
theorem dec_decN : ∀ (n : Nat) (s : List UInt8), s.length = n → decOk s = true → s ≠ [] → ¬ (byt s 0 = 48 ∧ ¬ s = [48]) → Lib.decDigits (decN s) = s := by
  intro n
  induction n with
  | zero => intro s hs _ hne; exact absurd (List.eq_nil_of_length_eq_zero hs) hne
  | succ n ih =>
    intro s hs hd hne h0
    have hb := decOk_iff.1 hd
    obtain ⟨t, c, rfl⟩ : ∃ t c, s = t ++ [c] := ⟨s.dropLast, s.getLast hne, (List.dropLast_concat_getLast hne).symm⟩
    have hlt : t.length = n := by simp at hs; exact hs
    have hc := hb n (by omega)
    have hcv : byt (t ++ [c]) n = (c.toNat : Int) := by rw [byt_eq (by omega), List.getElem_append_right (by omega)]; simp [hlt]
    rw [decN_snoc]
    have hcn : 48 ≤ c.toNat ∧ c.toNat ≤ 57 := by omega
    have hof : ∀ x : Nat, x % 10 = c.toNat - 48 → UInt8.ofNat (48 + x % 10) = c := fun x hx => by
      apply UInt8.toNat_inj.1
      rw [hx, UInt8.toNat_ofNat']; omega
    by_cases ht : t = []
    · subst ht
      have : decN [] = 0 := rfl
      rw [this, Lib.decDigits_one (by omega)]
      have := hof (c.toNat - 48) (by omega)
      rw [show (c.toNat - 48) % 10 = c.toNat - 48 by omega] at this
      simp [this]
    · have htb : ∀ k, k < t.length → byt (t ++ [c]) k = byt t k := fun k hk => by rw [byt_eq (by simp; omega), byt_eq hk, List.getElem_append_left hk]
      have h00 : ¬ byt t 0 = 48 := fun e => h0 ⟨by rw [htb 0 (List.length_pos_iff.2 ht)]; exact e, fun e2 => by have := congrArg List.length e2; simp at this; exact ht this⟩
      have hdt : decOk t = true := decOk_iff.2 (fun k hk => by rw [← htb k hk]; exact hb k (by simp; omega))
      have hit := ih t hlt hdt ht (fun e => h00 e.1)
      have hpos : 1 ≤ decN t := by
        have := decN_le (l := t) (i := 1) (List.length_pos_iff.2 ht)
        rw [decN_step (List.length_pos_iff.2 ht)] at this
        have h1 := decOk_iff.1 hdt 0 (List.length_pos_iff.2 ht)
        omega
      rw [decDigits_step (by omega), show (decN t * 10 + (c.toNat - 48)) / 10 = decN t by omega, hit, hof _ (by omega)]
theorem dec_ok (u : Nat) : decOk (Lib.decDigits u) = true := by
  induction u using Nat.strongRecOn with
  | ind u ih =>
    rcases Nat.lt_or_ge u 10 with h | h
    · rw [Lib.decDigits_one h]
      unfold decOk
      have : (UInt8.ofNat (48 + u)).toNat = 48 + u := by rw [UInt8.toNat_ofNat']; omega
      simp [UInt8.le_iff_toNat_le, this]; omega
    · rw [decDigits_step h]
      have h1 := ih (u / 10) (by omega)
      unfold decOk at h1 ⊢
      have : (UInt8.ofNat (48 + u % 10)).toNat = 48 + u % 10 := by rw [UInt8.toNat_ofNat']; omega
      rw [List.all_append, h1]
      simp [UInt8.le_iff_toNat_le, this]; omega
theorem dec_ne (u : Nat) : Lib.decDigits u ≠ [] := fun e => by have := Lib.decDigits_length u; rw [e] at this; have := Lib.nDigits_pos u; simp at *; omega
theorem dec_lead : ∀ u : Nat, byt (Lib.decDigits u) 0 = 48 → u = 0 := by
  intro u
  induction u using Nat.strongRecOn with
  | ind u ih =>
    rcases Nat.lt_or_ge u 10 with h | h
    · rw [Lib.decDigits_one h]
      intro e
      have : (UInt8.ofNat (48 + u)).toNat = 48 + u := by rw [UInt8.toNat_ofNat']; omega
      have e2 : ((UInt8.ofNat (48 + u)).toNat : Int) = 48 := e
      omega
    · rw [decDigits_step h]
      intro e
      have hl : 0 < (Lib.decDigits (u / 10)).length := List.length_pos_iff.2 (dec_ne _)
      rw [byt_eq (by simp), List.getElem_append_left hl, ← byt_eq hl] at e
      have := ih (u / 10) (by omega) e
      omega
theorem nerr_dec {u : Nat} {m : Int} (h : (u : Int) ≤ m) : nerr (Lib.decDigits u) m = 0 := by
  unfold nerr
  rw [if_neg, if_neg (by rw [decN_dec]; omega)]
  rintro (h1 | h1 | h1)
  · rw [dec_ok] at h1; cases h1
  · exact dec_ne u h1
  · have := dec_lead u h1.1
    subst this
    exact h1.2 (by rw [Lib.decDigits_one (by decide)]; rfl)
theorem nnum_dec {u : Nat} {m : Int} (h : (u : Int) ≤ m) : nnum (Lib.decDigits u) m = u := by
  unfold nnum; rw [if_pos (nerr_dec h), decN_dec]
theorem not_digit {u : Nat} {c : UInt8} (hc : c.toNat < 48) : c ∉ Lib.decDigits u := fun h => by
  obtain ⟨k, hk, he⟩ := List.getElem_of_mem h
  have := decOk_iff.1 (dec_ok u) k hk
  rw [byt_eq hk, he] at this; omega
theorem indexByte_found : ∀ {l : List UInt8} {c : UInt8} {m : Nat}, (∀ k, k < m → ¬ byt l k = (c.toNat : Int)) → m < l.length → byt l m = (c.toNat : Int) → Lib.indexByte l c = m
  | [], _, _, _, h, _ => by simp at h
  | a :: l, c, 0, _, _, h => by
    have : a = c := UInt8.toNat_inj.1 (Int.ofNat_inj.1 h)
    simp [Lib.indexByte, this]
  | a :: l, c, m + 1, hd, hl, h => by
    have h0 := hd 0 (by omega)
    have hne : ¬ a = c := fun e => h0 (by rw [e]; rfl)
    have ih := indexByte_found (l := l) (c := c) (m := m) (fun k hk => by have := hd (k + 1) (by omega); rwa [byt_succ] at this) (by simpa using hl) (by rwa [byt_succ] at h)
    simp only [Lib.indexByte, beq_iff_eq, hne, if_false, ih]
    rw [if_neg (by omega)]; omega
theorem indexByte_nil {l : List UInt8} {c : UInt8} (hd : ∀ k, k < l.length → ¬ byt l k = (c.toNat : Int)) : Lib.indexByte l c = -1 := by
  have h1 := Lib.indexByte_ge l c
  rcases Int.lt_or_le (Lib.indexByte l c) 0 with h | h
  · omega
  · exfalso
    obtain ⟨k, hk, he⟩ := List.getElem_of_mem ((indexByte_mem l c).1 h)
    exact hd k hk (by rw [byt_eq hk, he])
end Go.Xp
