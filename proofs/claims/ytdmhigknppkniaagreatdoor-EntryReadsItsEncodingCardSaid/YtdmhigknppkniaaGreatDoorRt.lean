/- Decimal numbers: a numeral and its value. -/
import Derived.Test.YtdmhigknppkniaaGreatDoorRecF
import Derived.Test.YtdmhigknppkniaaGreatDoorPath
import Derived.Test.YtdmhigknppkniaaGreatDoorParseP
import Derived.Test.YtdmhigknppkniaaGreatDoorFitA
set_option linter.unusedSimpArgs false
set_option linter.unusedVariables false
set_option linter.unusedSectionVars false
namespace Go.Xp
open Go.Proofs

theorem decN_dec : ∀ u : Nat, decN (Lib.decDigits u) = u := by
  intro u
  induction u using Nat.strongRecOn with
  | ind u ih =>
    rcases Nat.lt_or_ge u 10 with h | h
    · rw [Lib.decDigits_one h]
      have : (UInt8.ofNat (48 + u)).toNat = 48 + u := by rw [UInt8.toNat_ofNat']; omega
      show 0 * 10 + ((UInt8.ofNat (48 + u)).toNat - 48) = u
      rw [this]; omega
    · rw [decDigits_step h, decN_snoc, ih (u / 10) (by omega)]
      have : (UInt8.ofNat (48 + u % 10)).toNat = 48 + u % 10 := by rw [UInt8.toNat_ofNat']; omega
      rw [this]; omega
theorem dec_decN : ∀ (n : Nat) (s : List UInt8), s.length = n → decOk s = true → s ≠ [] → ¬ (byt s 0 = 48 ∧ ¬ s = [48]) → Lib.decDigits (decN s) = s := by
  intro n
  induction n with
  | zero => intro s hs _ hne; exact absurd (List.eq_nil_of_length_eq_zero hs) hne
  | succ n ih =>
    intro s hs hd hne h0
    have hb := decOk_iff.1 hd
    obtain ⟨t, c, rfl⟩ : ∃ t c, s = t ++ [c] := ⟨s.dropLast, s.getLast hne, (List.dropLast_concat_getLast hne).symm⟩
    have hlt : t.length = n := by simp at hs; exact hs
    have hc := hb n (by omega)
    have hcv : byt (t ++ [c]) n = (c.toNat : Int) := by rw [byt_eq (by omega), List.getElem_append_right (by omega)]; simp [hlt]
    rw [decN_snoc]
    have hcn : 48 ≤ c.toNat ∧ c.toNat ≤ 57 := by omega
    have hof : ∀ x : Nat, x % 10 = c.toNat - 48 → UInt8.ofNat (48 + x % 10) = c := fun x hx => by
      apply UInt8.toNat_inj.1
      rw [hx, UInt8.toNat_ofNat']; omega
    by_cases ht : t = []
    · subst ht
      have : decN [] = 0 := rfl
      rw [this, Lib.decDigits_one (by omega)]
      have := hof (c.toNat - 48) (by omega)
      rw [show (c.toNat - 48) % 10 = c.toNat - 48 by omega] at this
      simp [this]
    · have htb : ∀ k, k < t.length → byt (t ++ [c]) k = byt t k := fun k hk => by rw [byt_eq (by simp; omega), byt_eq hk, List.getElem_append_left hk]
      have h00 : ¬ byt t 0 = 48 := fun e => h0 ⟨by rw [htb 0 (List.length_pos_iff.2 ht)]; exact e, fun e2 => by have := congrArg List.length e2; simp at this; exact ht this⟩
      have hdt : decOk t = true := decOk_iff.2 (fun k hk => by rw [← htb k hk]; exact hb k (by simp; omega))
      have hit := ih t hlt hdt ht (fun e => h00 e.1)
      have hpos : 1 ≤ decN t := by
        have := decN_le (l := t) (i := 1) (List.length_pos_iff.2 ht)
        rw [decN_step (List.length_pos_iff.2 ht)] at this
        have h1 := decOk_iff.1 hdt 0 (List.length_pos_iff.2 ht)
        omega
      rw [decDigits_step (by omega), show (decN t * 10 + (c.toNat - 48)) / 10 = decN t by omega, hit, hof _ (by omega)]
theorem dec_ok (u : Nat) : decOk (Lib.decDigits u) = true := by
  induction u using Nat.strongRecOn with
  | ind u ih =>
    rcases Nat.lt_or_ge u 10 with h | h
    · rw [Lib.decDigits_one h]
      unfold decOk
      have : (UInt8.ofNat (48 + u)).toNat = 48 + u := by rw [UInt8.toNat_ofNat']; omega
      simp [UInt8.le_iff_toNat_le, this]; omega
    · rw [decDigits_step h]
      have h1 := ih (u / 10) (by omega)
      unfold decOk at h1 ⊢
      have : (UInt8.ofNat (48 + u % 10)).toNat = 48 + u % 10 := by rw [UInt8.toNat_ofNat']; omega
      rw [List.all_append, h1]
      simp [UInt8.le_iff_toNat_le, this]; omega
theorem dec_ne (u : Nat) : Lib.decDigits u ≠ [] := fun e => by have := Lib.decDigits_length u; rw [e] at this; have := Lib.nDigits_pos u; simp at *; omega
theorem dec_lead : ∀ u : Nat, byt (Lib.decDigits u) 0 = 48 → u = 0 := by
  intro u
  induction u using Nat.strongRecOn with
  | ind u ih =>
    rcases Nat.lt_or_ge u 10 with h | h
    · rw [Lib.decDigits_one h]
      intro e
      have : (UInt8.ofNat (48 + u)).toNat = 48 + u := by rw [UInt8.toNat_ofNat']; omega
      have e2 : ((UInt8.ofNat (48 + u)).toNat : Int) = 48 := e
      omega
    · rw [decDigits_step h]
      intro e
      have hl : 0 < (Lib.decDigits (u / 10)).length := List.length_pos_iff.2 (dec_ne _)
      rw [byt_eq (by simp), List.getElem_append_left hl, ← byt_eq hl] at e
      have := ih (u / 10) (by omega) e
      omega
theorem nerr_dec {u : Nat} {m : Int} (h : (u : Int) ≤ m) : nerr (Lib.decDigits u) m = 0 := by
  unfold nerr
  rw [if_neg, if_neg (by rw [decN_dec]; omega)]
  rintro (h1 | h1 | h1)
  · rw [dec_ok] at h1; cases h1
  · exact dec_ne u h1
  · have := dec_lead u h1.1
    subst this
    exact h1.2 (by rw [Lib.decDigits_one (by decide)]; rfl)
theorem indexByte_found : ∀ {l : List UInt8} {c : UInt8} {m : Nat}, (∀ k, k < m → ¬ byt l k = (c.toNat : Int)) → m < l.length → byt l m = (c.toNat : Int) → Lib.indexByte l c = m
  | [], _, _, _, h, _ => by simp at h
  | a :: l, c, 0, _, _, h => by
    have : a = c := UInt8.toNat_inj.1 (Int.ofNat_inj.1 h)
    simp [Lib.indexByte, this]
  | a :: l, c, m + 1, hd, hl, h => by
    have h0 := hd 0 (by omega)
    have hne : ¬ a = c := fun e => h0 (by rw [e]; rfl)
    have ih := indexByte_found (l := l) (c := c) (m := m) (fun k hk => by have := hd (k + 1) (by omega); rwa [byt_succ] at this) (by simpa using hl) (by rwa [byt_succ] at h)
    simp only [Lib.indexByte, beq_iff_eq, hne, if_false, ih]
    rw [if_neg (by omega)]; omega
theorem indexByte_nil {l : List UInt8} {c : UInt8} (hd : ∀ k, k < l.length → ¬ byt l k = (c.toNat : Int)) : Lib.indexByte l c = -1 := by
  have h1 := Lib.indexByte_ge l c
  rcases Int.lt_or_le (Lib.indexByte l c) 0 with h | h
  · omega
  · exfalso
    obtain ⟨k, hk, he⟩ := List.getElem_of_mem ((indexByte_mem l c).1 h)
    exact hd k hk (by rw [byt_eq hk, he])
end Go.Xp

/- Layer 9 (paxrec): the reference's Parse, and the laws on it. -/
set_option linter.unusedSimpArgs false
set_option linter.unusedVariables false
set_option linter.unusedSectionVars false
namespace Go.Xp
open Go.Proofs

theorem byt_takeP {l : List UInt8} {n k : Nat} (h : k < n) (hn : n ≤ l.length) : byt (l.take n) k = byt l k := by
  rw [byt_eq (by simp; omega), byt_eq (by omega), List.getElem_take]
theorem hsx_take {d : List UInt8} {n : Nat} (h1 : 1 ≤ n) (h2 : n ≤ d.length) : hsx (d.take n) 10 ↔ byt d (n - 1) = 10 := by
  unfold hsx
  rw [List.length_take, Nat.min_eq_left h2, byt_takeP (by omega) h2]
  exact ⟨fun h => h.2, fun h => ⟨by omega, h⟩⟩
end Go.Xp

/- Layer 8 (pathname): the laws' own text, for those that do not call Check. -/
set_option linter.unusedSimpArgs false
set_option linter.unusedVariables false
namespace Go.Xp
open Go.Proofs

theorem split_ok {p : List UInt8} (h : sok p = true) : (p.length ≤ 100 ∧ spre p = [] ∧ snam p = p) ∨ (¬ p.length ≤ 100 ∧ ∃ k, fits8 p k ∧ (∀ i, i < k → ¬ fits8 p i) ∧ spre p = p.take k ∧ snam p = p.drop (k + 1)) := by
  by_cases hl : p.length ≤ 100
  · left; exact ⟨hl, by unfold spre; rw [if_pos hl], by unfold snam; rw [if_pos hl]⟩
  · right
    have hb : bad8 p = false := by unfold sok at h; simpa [hl] using h
    rcases slash8_first hl with ⟨h1, _⟩ | ⟨_, k, hk, hk2, hk3⟩
    · rw [hb] at h1; cases h1
    · refine ⟨hl, k, hk2, hk3, ?_, ?_⟩
      · unfold spre; rw [if_neg hl, hb, hk]; rfl
      · unfold snam; rw [if_neg hl, hb, hk]; rfl
theorem join_split {p : List UInt8} (h : sok p = true) : pjoin (spre p) (snam p) = p ∧ (snam p).length ≤ 100 ∧ (spre p).length ≤ 155 ∧ (spre p = [] ↔ p.length ≤ 100) := by
  rcases split_ok h with ⟨hl, h3, h4⟩ | ⟨hl, k, hk, hk2, h3, h4⟩
  · rw [h3, h4]; simp [pjoin, hl]
  · obtain ⟨k1, k2, k3, k4, k5⟩ := hk
    have hne : p.take k ≠ [] := by
      intro e
      have := congrArg List.length e
      simp only [List.length_take, List.length_nil] at this; omega
    rw [h3, h4]
    refine ⟨?_, by simp only [List.length_drop]; omega, by simp only [List.length_take]; omega, ⟨fun e => absurd e hne, fun e => absurd e hl⟩⟩
    unfold pjoin
    rw [if_neg hne]
    have h5 : p[k]'(by omega) = 47 := by rw [byt_eq (by omega)] at k5; exact UInt8.toNat_inj.1 (Int.ofNat_inj.1 k5)
    rw [← h5, List.append_assoc, List.singleton_append, List.getElem_cons_drop, List.take_append_drop]

end Go.Xp

/- Layer 10 (fit): what a plan tells of its entry. -/
set_option linter.unusedSimpArgs false
set_option linter.unusedVariables false
set_option linter.unusedSectionVars false
namespace Go.Xp
open Go.Proofs

end Go.Xp

/- Layer 9 (paxrec): Parse inverts Format, and what is accepted is an encoding (plain). -/
set_option linter.unusedSimpArgs false
set_option linter.unusedVariables false
set_option linter.unusedSectionVars false
namespace Go.Xp
open Go.Proofs

theorem cut_join {c : UInt8} {l : List UInt8} (h : 0 ≤ Lib.indexByte l c) : l = cutA l c ++ c :: cutB l c := by
  have hlt := indexByte_lt l c
  have hat : l[(Lib.indexByte l c).toNat]'(by omega) = c := by
    have : ∀ (l : List UInt8) (h : 0 ≤ Lib.indexByte l c) (h2 : (Lib.indexByte l c).toNat < l.length), l[(Lib.indexByte l c).toNat] = c := by
      intro l
      induction l with
      | nil => intro h; simp [Lib.indexByte] at h
      | cons a r ih =>
        intro h h2
        by_cases ha : a = c
        · subst ha; simp [Lib.indexByte]
        · have e : Lib.indexByte (a :: r) c = if Lib.indexByte r c = -1 then -1 else Lib.indexByte r c + 1 := by simp [Lib.indexByte, ha]
          have hr := Lib.indexByte_ge r c
          by_cases hr1 : Lib.indexByte r c = -1
          · rw [e, if_pos hr1] at h; omega
          · rw [if_neg hr1] at e
            have h3 : (Lib.indexByte (a :: r) c).toNat = (Lib.indexByte r c).toNat + 1 := by rw [e]; omega
            have := indexByte_lt r c
            have ih' := ih (by omega) (by omega)
            simp only [h3, List.getElem_cons_succ]; exact ih'
    exact this l h (by omega)
  rw [cutA, cutB, if_pos h, if_pos h, show (Lib.indexByte l c + 1).toNat = (Lib.indexByte l c).toNat + 1 by omega]
  conv => lhs; rw [← List.take_append_drop (Lib.indexByte l c).toNat l, List.drop_eq_getElem_cons (by omega), hat]
theorem take_len_succ : ∀ (a : List UInt8) (c : UInt8) (b : List UInt8), (a ++ c :: b).take (a.length + 1) = a ++ [c]
  | [], c, b => by simp
  | x :: a, c, b => by
    have := take_len_succ a c b
    simp only [List.cons_append, List.length_cons, List.take_succ_cons, this]
theorem rone_of_ptake {d : List UInt8} (h : (ptake d).2.2 = 0) : d.take (ptake d).2.1.toNat = rone (ptake d).1 := by
  unfold ptake at h ⊢
  split
  · rename_i h1; rw [if_pos h1] at h; cases h
  · rename_i h1; rw [if_neg h1] at h
    split
    · rename_i h2; rw [if_pos h2] at h; cases h
    · rename_i h2; rw [if_neg h2] at h
      split
      · rename_i h3; rw [if_pos h3] at h; cases h
      · rename_i h3; rw [if_neg h3] at h
        split
        · rename_i h4; rw [if_pos h4] at h; cases h
        · rename_i h4; rw [if_neg h4] at h
          split
          · rename_i h5; rw [if_pos h5] at h; cases h
          · rename_i h5
            clear h
            have g1 : 0 ≤ Lib.indexByte d 32 := Classical.not_not.1 h1
            have g2 : nerr (cutA d 32) 999999 = 0 := Classical.not_not.1 (fun e => h2 (.inl e))
            have g4 : hsx (d.take (nnum (cutA d 32) 999999).toNat) 10 := Classical.not_not.1 (fun e => h4 (.inl e))
            have g5 := fun e => h4 (.inr e)
            have hng := nnum_ge (cutA d 32) 999999
            have hn0 : ¬ nnum (cutA d 32) 999999 = 0 := fun e => h2 (.inr e)
            have hnn : nnum (cutA d 32) 999999 = decN (cutA d 32) := by unfold nnum; rw [if_pos g2]
            have hcan : Lib.decDigits (decN (cutA d 32)) = cutA d 32 := by
              unfold nerr at g2
              split at g2
              · cases g2
              · rename_i k1
                simp only [not_or] at k1
                exact dec_decN _ _ rfl (by simpa using k1.1) k1.2.1 k1.2.2
            generalize hB : (d.take ((nnum (cutA d 32) 999999).toNat - 1)).drop ((cutA d 32).length + 1) = body at *
            have k1 : 0 ≤ Lib.indexByte body 61 := Classical.not_not.1 (fun e => h5 (.inl e))
            have k2 : (psz (rrest (cutA body 61) (cutB body 61)) : Int) = nnum (cutA d 32) 999999 := Classical.not_not.1 (fun e => h5 (.inr e))
            show d.take (nnum (cutA d 32) 999999).toNat = rone ⟨cutA body 61, cutB body 61⟩
            unfold rone
            rw [show psz (rrest (cutA body 61) (cutB body 61)) = decN (cutA d 32) by omega, hcan]
            have hj := cut_join k1
            have hjd := cut_join g1
            have hlt : (cutA d 32).length + 1 ≤ (nnum (cutA d 32) 999999).toNat - 1 := by omega
            have e1 : d.take ((nnum (cutA d 32) 999999).toNat - 1) = cutA d 32 ++ 32 :: body := by
              rw [← hB]
              conv => lhs; rw [← List.take_append_drop ((cutA d 32).length + 1) (d.take ((nnum (cutA d 32) 999999).toNat - 1))]
              rw [List.take_take, Nat.min_eq_left hlt]
              have : d.take ((cutA d 32).length + 1) = cutA d 32 ++ [32] := by
                have h9 := take_len_succ (cutA d 32) 32 (cutB d 32)
                rw [← hjd] at h9; exact h9
              rw [this]; simp
            have e2 : d.take (nnum (cutA d 32) 999999).toNat = d.take ((nnum (cutA d 32) 999999).toNat - 1) ++ [10] := by
              have hb := (hsx_take (d := d) (n := (nnum (cutA d 32) 999999).toNat) (by omega) (by omega)).1 g4
              rw [byt_eq (by omega)] at hb
              have hu : d[(nnum (cutA d 32) 999999).toNat - 1]'(by omega) = 10 := UInt8.toNat_inj.1 (Int.ofNat_inj.1 hb)
              conv => lhs; rw [show (nnum (cutA d 32) 999999).toNat = ((nnum (cutA d 32) 999999).toNat - 1) + 1 by omega, List.take_succ_eq_append_getElem (by omega), hu]
            rw [e2, e1]
            conv => lhs; rw [hj]
            simp
theorem at_snoc (l : List Rec) (x : Rec) : at_rec (l ++ [x]) l.length = x := by
  rw [at_rec_eq (by simp), List.getElem_append_right (by omega)]; simp
theorem at_app {l m : List Rec} {k : Nat} (hk : k < l.length) : at_rec (l ++ m) k = at_rec l k := by
  rw [at_rec_eq (by rw [List.length_append]; omega), at_rec_eq hk, List.getElem_append_left hk]
theorem RGood.snoc {l : List Rec} {x : Rec} (hg : RGood l l.length) (hb : rerr x.key x.val = 0) (ho : 0 < l.length → sle x.key (at_rec l (l.length - 1)).key = false) : RGood (l ++ [x]) (l ++ [x]).length := by
  refine ⟨Nat.le_refl _, fun k hk => ?_⟩
  rw [List.length_append, List.length_singleton] at hk
  rcases Nat.lt_succ_iff_lt_or_eq.1 hk with h1 | rfl
  · rw [at_app h1]
    refine ⟨(hg.2 k h1).1, fun h0 => ?_⟩
    rw [at_app (show k - 1 < l.length by omega)]; exact (hg.2 k h1).2 h0
  · rw [at_snoc]
    refine ⟨hb, fun h0 => ?_⟩
    rw [at_app (show l.length - 1 < l.length by omega)]; exact ho h0
theorem perr3_zer {l : List Rec} {t : Rec × Int × Int} (h : perr3 l t = 0) : t.2.2 = 0 ∧ rerr t.1.key t.1.val = 0 ∧ (0 < l.length → sle t.1.key (at_rec l (l.length - 1)).key = false) := by
  unfold perr3 at h
  split at h
  · rename_i h1; exact absurd h h1
  · rename_i h1
    split at h
    · rename_i h2; exact absurd h h2
    · rename_i h2
      split at h
      · cases h
      · rename_i h3
        exact ⟨Classical.not_not.1 h1, Classical.not_not.1 h2, fun h0 => by rw [← Bool.not_eq_true]; exact fun e => h3 ⟨h0, e⟩⟩
theorem ploop_back : ∀ (f : Nat) (l : List Rec) (i : Nat) (b : List UInt8), RGood l l.length → i ≤ b.length → l.flatMap rone = b.take i → b.length < i + f → (ploop f l i b).2.2 = 0 → RGood (ploop f l i b).1 (ploop f l i b).1.length ∧ (ploop f l i b).1.flatMap rone = b ∧ (ploop f l i b).2.1 = b.length
  | 0, l, i, b, _, h1, _, h3, _ => by omega
  | f + 1, l, i, b, hg, h1, h2, h3, h4 => by
    by_cases hi : i < b.length
    · by_cases hp : perr3 l (ptake (b.drop i)) = 0
      · obtain ⟨p1, p2, p3⟩ := perr3_zer hp
        have hok := ptake_ok p1
        rw [List.length_drop] at hok
        have e : ploop (f + 1) l i b = ploop f (l ++ [(ptake (b.drop i)).1]) (i + (ptake (b.drop i)).2.1.toNat) b := by rw [ploop, if_pos hi, if_neg (by simpa using hp)]
        rw [e] at h4 ⊢
        refine ploop_back f _ _ b (hg.snoc p2 p3) (by omega) ?_ (by omega) h4
        rw [List.flatMap_append, h2, List.take_add, rone_of_ptake p1]; simp
      · exfalso
        rw [ploop, if_pos hi, if_pos hp] at h4
        exact hp h4
    · have e : ploop (f + 1) l i b = (l, (b.length : Int), 0) := by rw [ploop, if_neg hi]
      rw [e]
      exact ⟨hg, by rw [h2, List.take_of_length_le (by omega)], rfl⟩
theorem pres_ne {t : List UInt8} (h : (pres t).2.2 = 0) : pres t = ploop (t.length + 1) [] 0 t := by
  unfold pres at h ⊢
  split
  · rename_i h1; rw [if_pos h1] at h; cases h
  · rfl
theorem fmt_parse {t : List UInt8} (h : (pres t).2.2 = 0) : rlerr none (pres t).1 = 0 ∧ rfmt (pres t).1 = t ∧ (pres t).2.1 = t.length := by
  have e := pres_ne h
  rw [e] at h ⊢
  obtain ⟨h1, h2, h3⟩ := ploop_back (t.length + 1) [] 0 t (RGood.zero []) (by omega) (by simp) (by omega) h
  have h4 := rlerr_all h1
  exact ⟨h4, by unfold rfmt; rw [if_pos h4]; exact h2, h3⟩
end Go.Xp
