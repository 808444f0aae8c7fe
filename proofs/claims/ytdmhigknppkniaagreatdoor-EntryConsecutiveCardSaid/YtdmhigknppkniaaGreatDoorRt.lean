/- Decimal numbers: a numeral and its value. -/
import Derived.Test.YtdmhigknppkniaaGreatDoorRecF
import Derived.Test.YtdmhigknppkniaaGreatDoorPath
import Derived.Test.YtdmhigknppkniaaGreatDoorParseP
import Derived.Test.YtdmhigknppkniaaGreatDoorFitA
set_option linter.unusedSimpArgs false
set_option linter.unusedVariables false
set_option linter.unusedSectionVars false
namespace Go.Xp
open Go.Proofs

theorem decN_dec : ∀ u : Nat, decN (Lib.decDigits u) = u := by
  intro u
  induction u using Nat.strongRecOn with
  | ind u ih =>
    rcases Nat.lt_or_ge u 10 with h | h
    · rw [Lib.decDigits_one h]
      have : (UInt8.ofNat (48 + u)).toNat = 48 + u := by rw [UInt8.toNat_ofNat']; omega
      show 0 * 10 + ((UInt8.ofNat (48 + u)).toNat - 48) = u
      rw [this]; omega
    · rw [decDigits_step h, decN_snoc, ih (u / 10) (by omega)]
      have : (UInt8.ofNat (48 + u % 10)).toNat = 48 + u % 10 := by rw [UInt8.toNat_ofNat']; omega
      rw [this]; omega
theorem dec_ok (u : Nat) : decOk (Lib.decDigits u) = true := by
  induction u using Nat.strongRecOn with
  | ind u ih =>
    rcases Nat.lt_or_ge u 10 with h | h
    · rw [Lib.decDigits_one h]
      unfold decOk
      have : (UInt8.ofNat (48 + u)).toNat = 48 + u := by rw [UInt8.toNat_ofNat']; omega
      simp [UInt8.le_iff_toNat_le, this]; omega
    · rw [decDigits_step h]
      have h1 := ih (u / 10) (by omega)
      unfold decOk at h1 ⊢
      have : (UInt8.ofNat (48 + u % 10)).toNat = 48 + u % 10 := by rw [UInt8.toNat_ofNat']; omega
      rw [List.all_append, h1]
      simp [UInt8.le_iff_toNat_le, this]; omega
theorem dec_ne (u : Nat) : Lib.decDigits u ≠ [] := fun e => by have := Lib.decDigits_length u; rw [e] at this; have := Lib.nDigits_pos u; simp at *; omega
theorem dec_lead : ∀ u : Nat, byt (Lib.decDigits u) 0 = 48 → u = 0 := by
  intro u
  induction u using Nat.strongRecOn with
  | ind u ih =>
    rcases Nat.lt_or_ge u 10 with h | h
    · rw [Lib.decDigits_one h]
      intro e
      have : (UInt8.ofNat (48 + u)).toNat = 48 + u := by rw [UInt8.toNat_ofNat']; omega
      have e2 : ((UInt8.ofNat (48 + u)).toNat : Int) = 48 := e
      omega
    · rw [decDigits_step h]
      intro e
      have hl : 0 < (Lib.decDigits (u / 10)).length := List.length_pos_iff.2 (dec_ne _)
      rw [byt_eq (by simp), List.getElem_append_left hl, ← byt_eq hl] at e
      have := ih (u / 10) (by omega) e
      omega
theorem nerr_dec {u : Nat} {m : Int} (h : (u : Int) ≤ m) : nerr (Lib.decDigits u) m = 0 := by
  unfold nerr
  rw [if_neg, if_neg (by rw [decN_dec]; omega)]
  rintro (h1 | h1 | h1)
  · rw [dec_ok] at h1; cases h1
  · exact dec_ne u h1
  · have := dec_lead u h1.1
    subst this
    exact h1.2 (by rw [Lib.decDigits_one (by decide)]; rfl)
theorem nnum_dec {u : Nat} {m : Int} (h : (u : Int) ≤ m) : nnum (Lib.decDigits u) m = u := by
  unfold nnum; rw [if_pos (nerr_dec h), decN_dec]
theorem not_digit {u : Nat} {c : UInt8} (hc : c.toNat < 48) : c ∉ Lib.decDigits u := fun h => by
  obtain ⟨k, hk, he⟩ := List.getElem_of_mem h
  have := decOk_iff.1 (dec_ok u) k hk
  rw [byt_eq hk, he] at this; omega
theorem indexByte_found : ∀ {l : List UInt8} {c : UInt8} {m : Nat}, (∀ k, k < m → ¬ byt l k = (c.toNat : Int)) → m < l.length → byt l m = (c.toNat : Int) → Lib.indexByte l c = m
  | [], _, _, _, h, _ => by simp at h
  | a :: l, c, 0, _, _, h => by
    have : a = c := UInt8.toNat_inj.1 (Int.ofNat_inj.1 h)
    simp [Lib.indexByte, this]
  | a :: l, c, m + 1, hd, hl, h => by
    have h0 := hd 0 (by omega)
    have hne : ¬ a = c := fun e => h0 (by rw [e]; rfl)
    have ih := indexByte_found (l := l) (c := c) (m := m) (fun k hk => by have := hd (k + 1) (by omega); rwa [byt_succ] at this) (by simpa using hl) (by rwa [byt_succ] at h)
    simp only [Lib.indexByte, beq_iff_eq, hne, if_false, ih]
    rw [if_neg (by omega)]; omega
theorem indexByte_nil {l : List UInt8} {c : UInt8} (hd : ∀ k, k < l.length → ¬ byt l k = (c.toNat : Int)) : Lib.indexByte l c = -1 := by
  have h1 := Lib.indexByte_ge l c
  rcases Int.lt_or_le (Lib.indexByte l c) 0 with h | h
  · omega
  · exfalso
    obtain ⟨k, hk, he⟩ := List.getElem_of_mem ((indexByte_mem l c).1 h)
    exact hd k hk (by rw [byt_eq hk, he])
end Go.Xp

/- Layer 9 (paxrec): the reference's Parse, and the laws on it. -/
set_option maxRecDepth 100000
namespace Go.Xp
open Go.Proofs

end Go.Xp

/- Layer 8 (pathname): the laws' own text, for those that do not call Check. -/
namespace Go.Xp
open Go.Proofs

theorem split_ok {p : List UInt8} (h : sok p = true) : (p.length ≤ 100 ∧ spre p = [] ∧ snam p = p) ∨ (¬ p.length ≤ 100 ∧ ∃ k, fits8 p k ∧ (∀ i, i < k → ¬ fits8 p i) ∧ spre p = p.take k ∧ snam p = p.drop (k + 1)) := by
  by_cases hl : p.length ≤ 100
  · left; exact ⟨hl, by unfold spre; rw [if_pos hl], by unfold snam; rw [if_pos hl]⟩
  · right
    have hb : bad8 p = false := by unfold sok at h; simpa [hl] using h
    rcases slash8_first hl with ⟨h1, _⟩ | ⟨_, k, hk, hk2, hk3⟩
    · rw [hb] at h1; cases h1
    · refine ⟨hl, k, hk2, hk3, ?_, ?_⟩
      · unfold spre; rw [if_neg hl, hb, hk]; rfl
      · unfold snam; rw [if_neg hl, hb, hk]; rfl
theorem join_split {p : List UInt8} (h : sok p = true) : pjoin (spre p) (snam p) = p ∧ (snam p).length ≤ 100 ∧ (spre p).length ≤ 155 ∧ (spre p = [] ↔ p.length ≤ 100) := by
  rcases split_ok h with ⟨hl, h3, h4⟩ | ⟨hl, k, hk, hk2, h3, h4⟩
  · rw [h3, h4]; simp [pjoin, hl]
  · obtain ⟨k1, k2, k3, k4, k5⟩ := hk
    have hne : p.take k ≠ [] := by
      intro e
      have := congrArg List.length e
      simp only [List.length_take, List.length_nil] at this; omega
    rw [h3, h4]
    refine ⟨?_, by simp only [List.length_drop]; omega, by simp only [List.length_take]; omega, ⟨fun e => absurd e hne, fun e => absurd e hl⟩⟩
    unfold pjoin
    rw [if_neg hne]
    have h5 : p[k]'(by omega) = 47 := by rw [byt_eq (by omega)] at k5; exact UInt8.toNat_inj.1 (Int.ofNat_inj.1 k5)
    rw [← h5, List.append_assoc, List.singleton_append, List.getElem_cons_drop, List.take_append_drop]

end Go.Xp

/- Layer 10 (fit): what a plan tells of its entry. -/
namespace Go.Xp
open Go.Proofs

end Go.Xp

/- Layer 9 (paxrec): Parse inverts Format, and what is accepted is an encoding (plain). -/
namespace Go.Xp
open Go.Proofs

theorem rgood_of {l : List Rec} (h : rlerr none l = 0) : ∀ {i : Nat}, i ≤ l.length → RGood l i
  | 0, _ => RGood.zero l
  | i + 1, hi => by
    have hg := rgood_of h (i := i) (by omega)
    have hb : rerr (at_rec l i).key (at_rec l i).val = 0 := Classical.byContradiction fun hb => by rw [rlerr_bad hg (by omega) hb] at h; exact hb h
    refine hg.succ (by omega) hb (fun h0 => ?_)
    rcases Bool.eq_false_or_eq_true (sle (at_rec l i).key (at_rec l (i - 1)).key) with h1 | h1
    · rw [rlerr_order hg (by omega) h0 hb h1] at h; cases h
    · exact h1
theorem rone_length {r : Rec} (h : rerr r.key r.val = 0) : (rone r).length = psz (rrest r.key r.val) := by
  have h1 := rerr_len h
  have h2 := pdig_ok (rest := rrest r.key r.val) (by unfold rrest; omega)
  unfold rone
  simp only [List.length_append, List.length_cons, List.length_nil, Lib.decDigits_length]
  have h3 : psz (rrest r.key r.val) = rrest r.key r.val + pdig (rrest r.key r.val) := rfl
  have h4 : rrest r.key r.val = r.key.length + r.val.length + 3 := rfl
  rw [h3, h2.2.2.1]; omega
theorem ix_app {c : UInt8} {b : List UInt8} : ∀ a : List UInt8, c ∉ a → Lib.indexByte (a ++ c :: b) c = a.length
  | [], _ => by simp [Lib.indexByte]
  | x :: a, h => by
    have hx : ¬ x = c := fun e => h (by rw [e]; exact List.mem_cons_self)
    have ih := ix_app (b := b) a (fun e => h (List.mem_cons_of_mem _ e))
    simp only [List.cons_append, Lib.indexByte, beq_iff_eq, hx, if_false, ih]
    rw [if_neg (by omega)]; simp
theorem cutA_app {c : UInt8} {a b : List UInt8} (h : c ∉ a) : cutA (a ++ c :: b) c = a := by
  rw [cutA, ix_app a h, if_pos (by omega), Int.toNat_natCast, List.take_left]
theorem cutB_app {c : UInt8} {a b : List UInt8} (h : c ∉ a) : cutB (a ++ c :: b) c = b := by
  rw [cutB, ix_app a h, if_pos (by omega), show ((a.length : Int) + 1).toNat = a.length + 1 by omega, List.drop_append, List.drop_of_length_le (by omega)]
  simp
theorem hsx_snoc (l : List UInt8) (c : UInt8) : hsx (l ++ [c]) c := by
  unfold hsx
  refine ⟨by simp, ?_⟩
  rw [byt_eq (by simp), List.getElem_append_right (by simp)]; simp
theorem ptake_rone {r : Rec} (h : rerr r.key r.val = 0) (rest : List UInt8) : ptake (rone r ++ rest) = (r, (psz (rrest r.key r.val) : Int), 0) := by
  have hlen := rone_length h
  have h6 := rone_len h
  have hk := rerr_ok h
  have hr3 : 3 ≤ rrest r.key r.val := by unfold rrest; omega
  generalize hP : psz (rrest r.key r.val) = P at *
  have hP3 : rrest r.key r.val ≤ P := by rw [← hP]; unfold psz; omega
  have hd : rone r ++ rest = Lib.decDigits P ++ 32 :: (r.key ++ 61 :: (r.val ++ 10 :: rest)) := by unfold rone; rw [hP]; simp
  have hA : cutA (rone r ++ rest) 32 = Lib.decDigits P := by rw [hd]; exact cutA_app (not_digit (by decide))
  have hI : Lib.indexByte (rone r ++ rest) 32 = (Lib.decDigits P).length := by rw [hd]; exact ix_app _ (not_digit (by decide))
  have hle : (P : Int) ≤ 999999 := by omega
  have hsp : rone r = (Lib.decDigits P ++ 32 :: (r.key ++ 61 :: r.val)) ++ [10] := by unfold rone; rw [hP]; simp
  have hl2 : (Lib.decDigits P ++ 32 :: (r.key ++ 61 :: r.val)).length = P - 1 := by
    have := congrArg List.length hsp; rw [hlen, List.length_append, List.length_singleton] at this; omega
  have htk : (rone r ++ rest).take P = rone r := by rw [← hlen, List.take_left]
  have htk1 : (rone r ++ rest).take (P - 1) = Lib.decDigits P ++ 32 :: (r.key ++ 61 :: r.val) := by
    rw [hsp, List.append_assoc, ← hl2, List.take_left]
  have hbody : ((rone r ++ rest).take (P - 1)).drop ((Lib.decDigits P).length + 1) = r.key ++ 61 :: r.val := by
    rw [htk1, List.drop_append, List.drop_of_length_le (by omega)]; simp
  have hk61 : (61 : UInt8) ∉ r.key := by rcases hk with hk | hk | hk <;> rw [hk] <;> decide
  unfold ptake
  rw [hA, nnum_dec hle, nerr_dec hle, hI, Int.toNat_natCast, hbody, cutA_app hk61, cutB_app hk61, ix_app _ hk61, htk, hP]
  rw [if_neg (by omega), if_neg (by omega), if_neg (by rw [List.length_append]; omega), if_neg, if_neg (by omega)]
  rintro (h9 | h9)
  · exact h9 (by rw [hsp]; exact hsx_snoc _ _)
  · have : (Lib.decDigits P).length + 2 ≤ P - 1 := by rw [← hl2, List.length_append, List.length_cons, List.length_append, List.length_cons]; omega
    omega
theorem ploop_fwd {d : List Rec} (hg : RGood d d.length) : ∀ (k i f : Nat), i + k = d.length → k < f → ploop f (d.take i) ((d.take i).flatMap rone).length (d.flatMap rone) = (d, ((d.flatMap rone).length : Int), 0)
  | 0, i, f, h, hf => by
    obtain ⟨f, rfl⟩ : ∃ g, f = g + 1 := ⟨f - 1, by omega⟩
    rw [List.take_of_length_le (by omega), ploop, if_neg (Nat.lt_irrefl _)]
  | k + 1, i, f, h, hf => by
    obtain ⟨f, rfl⟩ : ∃ g, f = g + 1 := ⟨f - 1, by omega⟩
    have hi : i < d.length := by omega
    obtain ⟨hb, ho⟩ := hg.2 i hi
    have hs : d.flatMap rone = (d.take i).flatMap rone ++ (rone (at_rec d i) ++ (d.drop (i + 1)).flatMap rone) := by
      conv => lhs; rw [← List.take_append_drop i d, drop_rec hi]
      rw [List.flatMap_append, List.flatMap_cons]
    have hdr : (d.flatMap rone).drop ((d.take i).flatMap rone).length = rone (at_rec d i) ++ (d.drop (i + 1)).flatMap rone := by
      rw [hs, List.drop_left]
    have hrl := rone_length hb
    have hpos : 1 ≤ psz (rrest (at_rec d i).key (at_rec d i).val) := by unfold psz rrest; omega
    have hp := ptake_rone hb ((d.drop (i + 1)).flatMap rone)
    have hpe : perr3 (d.take i) (at_rec d i, (psz (rrest (at_rec d i).key (at_rec d i).val) : Int), 0) = 0 := perr3_none rfl hb (fun h0 => by
      rw [List.length_take, Nat.min_eq_left (by omega)] at h0 ⊢
      have : at_rec (d.take i) (i - 1) = at_rec d (i - 1) := by
        rw [at_rec_eq (by rw [List.length_take]; omega), at_rec_eq (by omega), List.getElem_take]
      rw [this]; exact ho h0)
    rw [ploop, if_pos (by rw [hs, List.length_append, List.length_append]; omega), hdr, hp, hpe, if_neg (by simp)]
    have h1 : d.take i ++ [at_rec d i] = d.take (i + 1) := by rw [List.take_succ_eq_append_getElem hi, at_rec_eq hi]
    have h2 : ((d.take i).flatMap rone).length + (psz (rrest (at_rec d i).key (at_rec d i).val) : Int).toNat = ((d.take (i + 1)).flatMap rone).length := by
      rw [take_rone hi, List.length_append, hrl, Int.toNat_natCast]
    show ploop f (d.take i ++ [at_rec d i]) (((d.take i).flatMap rone).length + (psz (rrest (at_rec d i).key (at_rec d i).val) : Int).toNat) _ = _
    rw [h1, h2]
    exact ploop_fwd hg k (i + 1) f (by omega) (by omega)
theorem flat_lenR : ∀ d : List Rec, d.length ≤ (d.flatMap rone).length
  | [] => by simp
  | r :: d => by
    have := flat_lenR d
    rw [List.flatMap_cons, List.length_append, List.length_cons]
    have : 1 ≤ (rone r).length := by unfold rone; simp only [List.length_append, List.length_cons]; omega
    omega
theorem parse_fmt {d : List Rec} (h : rlerr none d = 0) (hl : (rfmt d).length ≤ 262144) : pres (rfmt d) = (d, ((rfmt d).length : Int), 0) := by
  have hf : rfmt d = d.flatMap rone := by unfold rfmt; rw [if_pos h]
  rw [pres, if_neg (by omega), hf]
  have := ploop_fwd (rgood_of h (Nat.le_refl _)) d.length 0 ((d.flatMap rone).length + 1) (by omega) (by have := flat_lenR d; omega)
  simpa using this
end Go.Xp
