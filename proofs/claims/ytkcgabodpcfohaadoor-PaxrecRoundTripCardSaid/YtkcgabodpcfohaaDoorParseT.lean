/- Layer 9 (paxrec): Parse inverts Format, and what is accepted is an encoding. -/
import Derived.Test.YtkcgabodpcfohaaDoorParseL
import Derived.Test.YtkcgabodpcfohaaDoorFitI
import Derived.Test.YtkcgabodpcfohaaDoorRecM
set_option linter.unusedSimpArgs false
set_option linter.unusedVariables false
set_option linter.unusedSectionVars false
namespace Go.Xp
open Go.Proofs

/-! ### A numeral's digits -/
theorem dec_decN : ∀ (n : Nat) (s : List UInt8), s.length = n → decOk s = true → s ≠ [] → ¬ (byt s 0 = 48 ∧ ¬ s = [48]) → Lib.decDigits (decN s) = s := by
  intro n
  induction n with
  | zero => intro s hs _ hne; exact absurd (List.eq_nil_of_length_eq_zero hs) hne
  | succ n ih =>
    intro s hs hd hne h0
    have hb := decOk_iff.1 hd
    obtain ⟨t, c, rfl⟩ : ∃ t c, s = t ++ [c] := ⟨s.dropLast, s.getLast hne, (List.dropLast_concat_getLast hne).symm⟩
    have hlt : t.length = n := by simp at hs; exact hs
    have hc := hb n (by omega)
    have hcv : byt (t ++ [c]) n = (c.toNat : Int) := by rw [byt_eq (by omega), List.getElem_append_right (by omega)]; simp [hlt]
    rw [decN_snoc]
    have hcn : 48 ≤ c.toNat ∧ c.toNat ≤ 57 := by omega
    have hof : ∀ x : Nat, x % 10 = c.toNat - 48 → UInt8.ofNat (48 + x % 10) = c := fun x hx => by
      apply UInt8.toNat_inj.1
      rw [hx, UInt8.toNat_ofNat']; omega
    by_cases ht : t = []
    · subst ht
      have : decN [] = 0 := rfl
      rw [this, Lib.decDigits_one (by omega)]
      have := hof (c.toNat - 48) (by omega)
      rw [show (c.toNat - 48) % 10 = c.toNat - 48 by omega] at this
      simp [this]
    · have htb : ∀ k, k < t.length → byt (t ++ [c]) k = byt t k := fun k hk => by rw [byt_eq (by simp; omega), byt_eq hk, List.getElem_append_left hk]
      have h00 : ¬ byt t 0 = 48 := fun e => h0 ⟨by rw [htb 0 (List.length_pos_iff.2 ht)]; exact e, fun e2 => by have := congrArg List.length e2; simp at this; exact ht this⟩
      have hdt : decOk t = true := decOk_iff.2 (fun k hk => by rw [← htb k hk]; exact hb k (by simp; omega))
      have hit := ih t hlt hdt ht (fun e => h00 e.1)
      have hpos : 1 ≤ decN t := by
        have := decN_le (l := t) (i := 1) (List.length_pos_iff.2 ht)
        rw [decN_step (List.length_pos_iff.2 ht)] at this
        have h1 := decOk_iff.1 hdt 0 (List.length_pos_iff.2 ht)
        omega
      rw [decDigits_step (by omega), show (decN t * 10 + (c.toNat - 48)) / 10 = decN t by omega, hit, hof _ (by omega)]
theorem dec_ok (u : Nat) : decOk (Lib.decDigits u) = true := by
  induction u using Nat.strongRecOn with
  | ind u ih =>
    rcases Nat.lt_or_ge u 10 with h | h
    · rw [Lib.decDigits_one h]
      unfold decOk
      have : (UInt8.ofNat (48 + u)).toNat = 48 + u := by rw [UInt8.toNat_ofNat']; omega
      simp [UInt8.le_iff_toNat_le, this]; omega
    · rw [decDigits_step h]
      have h1 := ih (u / 10) (by omega)
      unfold decOk at h1 ⊢
      have : (UInt8.ofNat (48 + u % 10)).toNat = 48 + u % 10 := by rw [UInt8.toNat_ofNat']; omega
      rw [List.all_append, h1]
      simp [UInt8.le_iff_toNat_le, this]; omega
theorem dec_ne (u : Nat) : Lib.decDigits u ≠ [] := fun e => by have := Lib.decDigits_length u; rw [e] at this; have := Lib.nDigits_pos u; simp at *; omega
theorem dec_lead : ∀ u : Nat, byt (Lib.decDigits u) 0 = 48 → u = 0 := by
  intro u
  induction u using Nat.strongRecOn with
  | ind u ih =>
    rcases Nat.lt_or_ge u 10 with h | h
    · rw [Lib.decDigits_one h]
      intro e
      have : (UInt8.ofNat (48 + u)).toNat = 48 + u := by rw [UInt8.toNat_ofNat']; omega
      have e2 : ((UInt8.ofNat (48 + u)).toNat : Int) = 48 := e
      omega
    · rw [decDigits_step h]
      intro e
      have hl : 0 < (Lib.decDigits (u / 10)).length := List.length_pos_iff.2 (dec_ne _)
      rw [byt_eq (by simp), List.getElem_append_left hl, ← byt_eq hl] at e
      have := ih (u / 10) (by omega) e
      omega
theorem nerr_dec {u : Nat} {m : Int} (h : (u : Int) ≤ m) : nerr (Lib.decDigits u) m = 0 := by
  unfold nerr
  rw [if_neg, if_neg (by rw [decN_dec]; omega)]
  rintro (h1 | h1 | h1)
  · rw [dec_ok] at h1; cases h1
  · exact dec_ne u h1
  · have := dec_lead u h1.1
    subst this
    exact h1.2 (by rw [Lib.decDigits_one (by decide)]; rfl)
theorem nnum_dec {u : Nat} {m : Int} (h : (u : Int) ≤ m) : nnum (Lib.decDigits u) m = u := by
  unfold nnum; rw [if_pos (nerr_dec h), decN_dec]

/-! ### One record, written and read -/
theorem ix_app {c : UInt8} {b : List UInt8} : ∀ a : List UInt8, c ∉ a → Lib.indexByte (a ++ c :: b) c = a.length
  | [], _ => by simp [Lib.indexByte]
  | x :: a, h => by
    have hx : ¬ x = c := fun e => h (by rw [e]; exact List.mem_cons_self)
    have ih := ix_app (b := b) a (fun e => h (List.mem_cons_of_mem _ e))
    simp only [List.cons_append, Lib.indexByte, beq_iff_eq, hx, if_false, ih]
    rw [if_neg (by omega)]; simp
theorem cutA_app {c : UInt8} {a b : List UInt8} (h : c ∉ a) : cutA (a ++ c :: b) c = a := by
  rw [cutA, ix_app a h, if_pos (by omega), Int.toNat_natCast, List.take_left]
theorem cutB_app {c : UInt8} {a b : List UInt8} (h : c ∉ a) : cutB (a ++ c :: b) c = b := by
  rw [cutB, ix_app a h, if_pos (by omega), show ((a.length : Int) + 1).toNat = a.length + 1 by omega, List.drop_append, List.drop_of_length_le (by omega)]
  simp
theorem cut_join {c : UInt8} {l : List UInt8} (h : 0 ≤ Lib.indexByte l c) : l = cutA l c ++ c :: cutB l c := by
  have hlt := indexByte_lt l c
  have hat : l[(Lib.indexByte l c).toNat]'(by omega) = c := by
    have : ∀ (l : List UInt8) (h : 0 ≤ Lib.indexByte l c) (h2 : (Lib.indexByte l c).toNat < l.length), l[(Lib.indexByte l c).toNat] = c := by
      intro l
      induction l with
      | nil => intro h; simp [Lib.indexByte] at h
      | cons a r ih =>
        intro h h2
        by_cases ha : a = c
        · subst ha; simp [Lib.indexByte]
        · have e : Lib.indexByte (a :: r) c = if Lib.indexByte r c = -1 then -1 else Lib.indexByte r c + 1 := by simp [Lib.indexByte, ha]
          have hr := Lib.indexByte_ge r c
          by_cases hr1 : Lib.indexByte r c = -1
          · rw [e, if_pos hr1] at h; omega
          · rw [if_neg hr1] at e
            have h3 : (Lib.indexByte (a :: r) c).toNat = (Lib.indexByte r c).toNat + 1 := by rw [e]; omega
            have := indexByte_lt r c
            have ih' := ih (by omega) (by omega)
            simp only [h3, List.getElem_cons_succ]; exact ih'
    exact this l h (by omega)
  rw [cutA, cutB, if_pos h, if_pos h, show (Lib.indexByte l c + 1).toNat = (Lib.indexByte l c).toNat + 1 by omega]
  conv => lhs; rw [← List.take_append_drop (Lib.indexByte l c).toNat l, List.drop_eq_getElem_cons (by omega), hat]
theorem hsx_snoc (l : List UInt8) (c : UInt8) : hsx (l ++ [c]) c := by
  unfold hsx
  refine ⟨by simp, ?_⟩
  rw [byt_eq (by simp), List.getElem_append_right (by simp)]; simp
theorem not_digit {u : Nat} {c : UInt8} (hc : c.toNat < 48) : c ∉ Lib.decDigits u := fun h => by
  obtain ⟨k, hk, he⟩ := List.getElem_of_mem h
  have := decOk_iff.1 (dec_ok u) k hk
  rw [byt_eq hk, he] at this; omega
theorem ptake_rone {r : Rec} (h : rerr r.key r.val = 0) (rest : List UInt8) : ptake (rone r ++ rest) = (r, (psz (rrest r.key r.val) : Int), 0) := by
  have hlen := rone_length h
  have h6 := rone_len h
  have hk := rerr_ok h
  have hr3 : 3 ≤ rrest r.key r.val := by unfold rrest; omega
  generalize hP : psz (rrest r.key r.val) = P at *
  have hP3 : rrest r.key r.val ≤ P := by rw [← hP]; unfold psz; omega
  have hd : rone r ++ rest = Lib.decDigits P ++ 32 :: (r.key ++ 61 :: (r.val ++ 10 :: rest)) := by unfold rone; rw [hP]; simp
  have hA : cutA (rone r ++ rest) 32 = Lib.decDigits P := by rw [hd]; exact cutA_app (not_digit (by decide))
  have hI : Lib.indexByte (rone r ++ rest) 32 = (Lib.decDigits P).length := by rw [hd]; exact ix_app _ (not_digit (by decide))
  have hle : (P : Int) ≤ 999999 := by omega
  have hsp : rone r = (Lib.decDigits P ++ 32 :: (r.key ++ 61 :: r.val)) ++ [10] := by unfold rone; rw [hP]; simp
  have hl2 : (Lib.decDigits P ++ 32 :: (r.key ++ 61 :: r.val)).length = P - 1 := by
    have := congrArg List.length hsp; rw [hlen, List.length_append, List.length_singleton] at this; omega
  have htk : (rone r ++ rest).take P = rone r := by rw [← hlen, List.take_left]
  have htk1 : (rone r ++ rest).take (P - 1) = Lib.decDigits P ++ 32 :: (r.key ++ 61 :: r.val) := by
    rw [hsp, List.append_assoc, ← hl2, List.take_left]
  have hbody : ((rone r ++ rest).take (P - 1)).drop ((Lib.decDigits P).length + 1) = r.key ++ 61 :: r.val := by
    rw [htk1, List.drop_append, List.drop_of_length_le (by omega)]; simp
  have hk61 : (61 : UInt8) ∉ r.key := by rcases hk with hk | hk | hk <;> rw [hk] <;> decide
  unfold ptake
  rw [hA, nnum_dec hle, nerr_dec hle, hI, Int.toNat_natCast, hbody, cutA_app hk61, cutB_app hk61, ix_app _ hk61, htk, hP]
  rw [if_neg (by omega), if_neg (by omega), if_neg (by rw [List.length_append]; omega), if_neg, if_neg (by omega)]
  rintro (h9 | h9)
  · exact h9 (by rw [hsp]; exact hsx_snoc _ _)
  · have : (Lib.decDigits P).length + 2 ≤ P - 1 := by rw [← hl2, List.length_append, List.length_cons, List.length_append, List.length_cons]; omega
    omega
theorem take_len_succ : ∀ (a : List UInt8) (c : UInt8) (b : List UInt8), (a ++ c :: b).take (a.length + 1) = a ++ [c]
  | [], c, b => by simp
  | x :: a, c, b => by
    have := take_len_succ a c b
    simp only [List.cons_append, List.length_cons, List.take_succ_cons, this]
theorem rone_of_ptake {d : List UInt8} (h : (ptake d).2.2 = 0) : d.take (ptake d).2.1.toNat = rone (ptake d).1 := by
  unfold ptake at h ⊢
  split
  · rename_i h1; rw [if_pos h1] at h; cases h
  · rename_i h1; rw [if_neg h1] at h
    split
    · rename_i h2; rw [if_pos h2] at h; cases h
    · rename_i h2; rw [if_neg h2] at h
      split
      · rename_i h3; rw [if_pos h3] at h; cases h
      · rename_i h3; rw [if_neg h3] at h
        split
        · rename_i h4; rw [if_pos h4] at h; cases h
        · rename_i h4; rw [if_neg h4] at h
          split
          · rename_i h5; rw [if_pos h5] at h; cases h
          · rename_i h5
            clear h
            have g1 : 0 ≤ Lib.indexByte d 32 := Classical.not_not.1 h1
            have g2 : nerr (cutA d 32) 999999 = 0 := Classical.not_not.1 (fun e => h2 (.inl e))
            have g4 : hsx (d.take (nnum (cutA d 32) 999999).toNat) 10 := Classical.not_not.1 (fun e => h4 (.inl e))
            have g5 := fun e => h4 (.inr e)
            have hng := nnum_ge (cutA d 32) 999999
            have hn0 : ¬ nnum (cutA d 32) 999999 = 0 := fun e => h2 (.inr e)
            have hnn : nnum (cutA d 32) 999999 = decN (cutA d 32) := by unfold nnum; rw [if_pos g2]
            have hcan : Lib.decDigits (decN (cutA d 32)) = cutA d 32 := by
              unfold nerr at g2
              split at g2
              · cases g2
              · rename_i k1
                simp only [not_or] at k1
                exact dec_decN _ _ rfl (by simpa using k1.1) k1.2.1 k1.2.2
            generalize hB : (d.take ((nnum (cutA d 32) 999999).toNat - 1)).drop ((cutA d 32).length + 1) = body at *
            have k1 : 0 ≤ Lib.indexByte body 61 := Classical.not_not.1 (fun e => h5 (.inl e))
            have k2 : (psz (rrest (cutA body 61) (cutB body 61)) : Int) = nnum (cutA d 32) 999999 := Classical.not_not.1 (fun e => h5 (.inr e))
            show d.take (nnum (cutA d 32) 999999).toNat = rone ⟨cutA body 61, cutB body 61⟩
            unfold rone
            rw [show psz (rrest (cutA body 61) (cutB body 61)) = decN (cutA d 32) by omega, hcan]
            have hj := cut_join k1
            have hjd := cut_join g1
            have hlt : (cutA d 32).length + 1 ≤ (nnum (cutA d 32) 999999).toNat - 1 := by omega
            have e1 : d.take ((nnum (cutA d 32) 999999).toNat - 1) = cutA d 32 ++ 32 :: body := by
              rw [← hB]
              conv => lhs; rw [← List.take_append_drop ((cutA d 32).length + 1) (d.take ((nnum (cutA d 32) 999999).toNat - 1))]
              rw [List.take_take, Nat.min_eq_left hlt]
              have : d.take ((cutA d 32).length + 1) = cutA d 32 ++ [32] := by
                have h9 := take_len_succ (cutA d 32) 32 (cutB d 32)
                rw [← hjd] at h9; exact h9
              rw [this]; simp
            have e2 : d.take (nnum (cutA d 32) 999999).toNat = d.take ((nnum (cutA d 32) 999999).toNat - 1) ++ [10] := by
              have hb := (hsx_take (d := d) (n := (nnum (cutA d 32) 999999).toNat) (by omega) (by omega)).1 g4
              rw [byt_eq (by omega)] at hb
              have hu : d[(nnum (cutA d 32) 999999).toNat - 1]'(by omega) = 10 := UInt8.toNat_inj.1 (Int.ofNat_inj.1 hb)
              conv => lhs; rw [show (nnum (cutA d 32) 999999).toNat = ((nnum (cutA d 32) 999999).toNat - 1) + 1 by omega, List.take_succ_eq_append_getElem (by omega), hu]
            rw [e2, e1]
            conv => lhs; rw [hj]
            simp
end Go.Xp
