/- Layer 9 (paxrec): Format. -/
import Derived.Test.YtolfadbbhocikaaDoorRec
set_option linter.unusedSimpArgs false
set_option linter.unusedVariables false
set_option linter.unusedSectionVars false
namespace Go.Xp
open Go.Proofs

def sle (a b : List UInt8) : Bool := Op.bytesLess a b || a == b
def ordBad : Option (List UInt8) → List UInt8 → Bool
  | none, _ => false
  | some q, k => sle k q
/-- What is wrong with a list of records behind the key 'p'. -/
def rlerr : Option (List UInt8) → List Rec → Int
  | _, [] => 0
  | p, r :: rest => if ¬ rerr r.key r.val = 0 then rerr r.key r.val else if ordBad p r.key = true then 12 else rlerr (some r.key) rest
/-- One record's bytes. -/
def rone (r : Rec) : List UInt8 := Lib.decDigits (psz (rrest r.key r.val)) ++ ([32] ++ r.key ++ [61] ++ r.val ++ [10])
def rfmt (l : List Rec) : List UInt8 := if rlerr none l = 0 then l.flatMap rone else []
def RGood (l : List Rec) (i : Nat) : Prop := i ≤ l.length ∧ ∀ k, k < i → rerr (at_rec l k).key (at_rec l k).val = 0 ∧ (0 < k → sle (at_rec l k).key (at_rec l (k - 1)).key = false)
def rprev (l : List Rec) (i : Nat) : Option (List UInt8) := if i = 0 then none else some (at_rec l (i - 1)).key

theorem at_rec_eq {l : List Rec} {i : Nat} (h : i < l.length) : at_rec l i = l[i] := by
  rw [at_rec, List.getD_eq_getElem?_getD, List.getElem?_eq_getElem h]; rfl
theorem drop_rec {l : List Rec} {i : Nat} (h : i < l.length) : l.drop i = at_rec l i :: l.drop (i + 1) := by
  rw [at_rec_eq h]; exact List.drop_eq_getElem_cons h
theorem rlerr_skip {l : List Rec} : ∀ {i : Nat}, RGood l i → rlerr none l = rlerr (rprev l i) (l.drop i)
  | 0, _ => rfl
  | i + 1, h => by
    have hi : i < l.length := h.1
    rw [rlerr_skip (i := i) ⟨by omega, fun k hk => h.2 k (by omega)⟩, drop_rec hi]
    obtain ⟨h1, h2⟩ := h.2 i (by omega)
    rw [rlerr, if_neg (by simpa using h1)]
    have e : ordBad (rprev l i) (at_rec l i).key = false := by
      unfold rprev
      by_cases h0 : i = 0
      · rw [if_pos h0]; rfl
      · rw [if_neg h0]; exact h2 (by omega)
    rw [e, if_neg (by simp)]
    rfl
theorem rlerr_bad {l : List Rec} {i : Nat} (h : RGood l i) (hi : i < l.length) (hb : ¬ rerr (at_rec l i).key (at_rec l i).val = 0) : rlerr none l = rerr (at_rec l i).key (at_rec l i).val := by
  rw [rlerr_skip h, drop_rec hi, rlerr, if_pos hb]
theorem rlerr_order {l : List Rec} {i : Nat} (h : RGood l i) (hi : i < l.length) (h0 : 0 < i) (hb : rerr (at_rec l i).key (at_rec l i).val = 0) (ho : sle (at_rec l i).key (at_rec l (i - 1)).key = true) : rlerr none l = 12 := by
  rw [rlerr_skip h, drop_rec hi, rlerr, if_neg (by simpa using hb)]
  have e : ordBad (rprev l i) (at_rec l i).key = true := by
    unfold rprev; rw [if_neg (by omega)]; exact ho
  rw [if_pos e]
theorem rlerr_all {l : List Rec} (h : RGood l l.length) : rlerr none l = 0 := by
  rw [rlerr_skip h, List.drop_length]; rfl
theorem RGood.zero (l : List Rec) : RGood l 0 := ⟨Nat.zero_le _, fun k hk => absurd hk (Nat.not_lt_zero _)⟩
theorem RGood.succ {l : List Rec} {i : Nat} (h : RGood l i) (hi : i < l.length) (hb : rerr (at_rec l i).key (at_rec l i).val = 0) (ho : 0 < i → sle (at_rec l i).key (at_rec l (i - 1)).key = false) : RGood l (i + 1) :=
  ⟨hi, fun k hk => by
    rcases Nat.lt_succ_iff_lt_or_eq.1 hk with h1 | rfl
    · exact h.2 k h1
    · exact ⟨hb, ho⟩⟩
/-! Only three keys: no good list is longer. -/
def krank (k : List UInt8) : Nat := if k = [108, 105, 110, 107, 112, 97, 116, 104] then 0 else if k = [112, 97, 116, 104] then 1 else 2
theorem rerr_ok {k v : List UInt8} (h : rerr k v = 0) : (k = [108, 105, 110, 107, 112, 97, 116, 104] ∨ k = [112, 97, 116, 104] ∨ k = [115, 105, 122, 101]) := by
  unfold rerr at h
  split at h
  · rename_i h1; exact .inr (.inr h1)
  · split at h
    · rename_i h1; exact h1.elim .inl (fun h => .inr (.inl h))
    · cases h
theorem krank_lt {a b : List UInt8} (ha : a = [108, 105, 110, 107, 112, 97, 116, 104] ∨ a = [112, 97, 116, 104] ∨ a = [115, 105, 122, 101]) (hb : b = [108, 105, 110, 107, 112, 97, 116, 104] ∨ b = [112, 97, 116, 104] ∨ b = [115, 105, 122, 101]) (h : sle a b = false) : krank b < krank a := by
  rcases ha with rfl | rfl | rfl <;> rcases hb with rfl | rfl | rfl <;> revert h <;> decide
theorem RGood.rank {l : List Rec} : ∀ {i : Nat}, RGood l (i + 1) → i ≤ krank (at_rec l i).key
  | 0, _ => Nat.zero_le _
  | i + 1, h => by
    have h1 := RGood.rank (i := i) ⟨by have := h.1; omega, fun k hk => h.2 k (by omega)⟩
    have h2 := h.2 i (by omega)
    have h3 := h.2 (i + 1) (by omega)
    have := krank_lt (rerr_ok h3.1) (rerr_ok h2.1) (by have := h3.2 (by omega); simpa using this)
    omega
theorem krank_le (k : List UInt8) : krank k ≤ 2 := by unfold krank; split <;> (try split) <;> omega
theorem RGood.three {l : List Rec} {i : Nat} (h : RGood l i) : i ≤ 3 := by
  cases i with
  | zero => omega
  | succ i => have := h.rank; have := krank_le (at_rec l i).key; omega
theorem dec_bound : ∀ (n : Nat) (l : List UInt8), (∀ k, k < l.length → 48 ≤ byt l k) → True := fun _ _ _ => trivial
theorem decN_big {s : List UInt8} (hd : decOk s = true) (h2 : 2 ≤ s.length) (h0 : ¬ (byt s 0 = 48 ∧ ¬ s = [48])) : 10 ^ (s.length - 1) ≤ decN s := by
  have hb := decOk_iff.1 hd
  have h9 : 49 ≤ byt s 0 := by
    have := hb 0 (by omega)
    rcases Int.lt_or_le (byt s 0) 49 with h2 | h2
    · exact absurd ⟨by omega, fun e => by have := congrArg List.length e; simp at this; omega⟩ h0
    · exact h2
  have key : ∀ i, i + 1 ≤ s.length → 10 ^ i ≤ decN (s.take (i + 1)) := by
    intro i
    induction i with
    | zero =>
      intro _
      rw [decN_step (by omega)]
      have : decN (s.take 0) = 0 := by simp [decN]
      omega
    | succ i ih =>
      intro h
      rw [decN_step (by omega), Nat.pow_succ]
      have := ih (by omega)
      omega
  have := key (s.length - 1) (by omega)
  rw [show s.length - 1 + 1 = s.length by omega, List.take_length] at this
  exact this
theorem rerr_len {k v : List UInt8} (h : rerr k v = 0) : k.length ≤ 8 ∧ v.length ≤ 65536 := by
  refine ⟨by rcases rerr_ok h with rfl | rfl | rfl <;> simp, ?_⟩
  unfold rerr at h
  split at h
  · have hn : nerr v 1099511627776 = 0 := h
    unfold nerr at hn
    split at hn
    · cases hn
    · rename_i h1
      simp only [not_or] at h1
      split at hn
      · cases hn
      · rename_i h2
        rcases Nat.lt_or_ge v.length 15 with h3 | h3
        · omega
        · have := decN_big (by simpa using h1.1) (by omega) h1.2.2
          have h4 : 10 ^ 14 ≤ 10 ^ (v.length - 1) := Nat.pow_le_pow_right (by decide) (by omega)
          have h5 : (10 : Nat) ^ 14 = 100000000000000 := by decide
          omega
  · split at h
    · split at h
      · cases h
      · omega
    · cases h
theorem psz_lt {r : Nat} (h : r ≤ 1152921504606846976) : psz r ≤ r + 25 := by have := pdig_ok h; unfold psz; omega
theorem rone_len {r : Rec} (h : rerr r.key r.val = 0) : (rone r).length ≤ 65600 := by
  have h1 := rerr_len h
  have h2 := psz_lt (r := rrest r.key r.val) (by unfold rrest; omega)
  have h3 := decDigits_len (a := psz (rrest r.key r.val)) (by unfold rrest at h2 ⊢; omega)
  unfold rone
  simp only [List.length_append, List.length_cons, List.length_nil]
  omega
theorem RGood.out {l : List Rec} : ∀ {i : Nat}, RGood l i → ((l.take i).flatMap rone).length ≤ 65600 * i
  | 0, _ => by simp
  | i + 1, h => by
    have h1 := RGood.out (i := i) ⟨by have := h.1; omega, fun k hk => h.2 k (by omega)⟩
    have hi : i < l.length := h.1
    have h2 := rone_len (r := at_rec l i) (h.2 i (by omega)).1
    rw [List.take_succ_eq_append_getElem hi, List.flatMap_append, List.length_append, ← at_rec_eq hi]
    simp only [List.flatMap_cons, List.flatMap_nil, List.append_nil]
    omega
theorem take_rone {l : List Rec} {i : Nat} (hi : i < l.length) : (l.take (i + 1)).flatMap rone = (l.take i).flatMap rone ++ rone (at_rec l i) := by
  rw [List.take_succ_eq_append_getElem hi, List.flatMap_append, ← at_rec_eq hi]
  simp
theorem at_rec_mem {l : List Rec} {i : Nat} (h : i < l.length) : at_rec l i ∈ l := by rw [at_rec_eq h]; exact List.getElem_mem h




/-! ### The keys -/

abbrev rkeys : List (List UInt8) := [[108, 105, 110, 107, 112, 97, 116, 104], [112, 97, 116, 104], [115, 105, 122, 101]]

theorem str_ext {a b : List (List UInt8)} (hl : a.length = b.length) (h : ∀ k, k < a.length → at_str a k = at_str b k) : a = b := by
  apply List.ext_getElem hl
  intro i h1 h2
  have := h i h1
  rw [at_str, at_str, List.getD_eq_getElem?_getD, List.getD_eq_getElem?_getD, List.getElem?_eq_getElem h1, List.getElem?_eq_getElem h2] at this
  exact this

/-! ### The law's helpers -/
def rsum (l : List Rec) : Nat := (l.map fun r => r.key.length + r.val.length).sum
theorem rsum_take {l : List Rec} {i : Nat} (hi : i < l.length) : rsum (l.take (i + 1)) = rsum (l.take i) + ((at_rec l i).key.length + (at_rec l i).val.length) := by
  rw [List.take_succ_eq_append_getElem hi, rsum, rsum, List.map_append, List.sum_append, ← at_rec_eq hi]; simp
theorem rsum_le {l : List Rec} {B : Nat} (hs : ∀ r ∈ l, r.key.length ≤ B ∧ r.val.length ≤ B) : ∀ {i : Nat}, i ≤ l.length → rsum (l.take i) ≤ i * (2 * B)
  | 0, _ => by simp [rsum]
  | i + 1, h => by
    have := rsum_le hs (i := i) (by omega)
    have h2 := hs _ (at_rec_mem (l := l) (i := i) (by omega))
    rw [rsum_take (by omega), Nat.add_mul]; omega

theorem pdig_one {r : Nat} (h : r + 1 < 10) : pdig r = 1 := by
  unfold pdig; rw [pgo, if_pos (by rw [Lib.nDigits_small h]; omega)]
theorem alive_err : rlerr none [⟨[112, 97, 116, 104], [97]⟩] = 0 := by decide
theorem alive_fmt : rfmt [⟨[112, 97, 116, 104], [97]⟩] = [57, 32, 112, 97, 116, 104, 61, 97, 10] := by
  unfold rfmt
  rw [if_pos alive_err]
  show rone _ ++ [] = _
  have e : psz (rrest [112, 97, 116, 104] [97]) = 9 := by unfold psz; rw [pdig_one (by decide)]; rfl
  unfold rone
  rw [e, Lib.decDigits_one (by decide)]; rfl
theorem alive_size : psz (rrest [115, 105, 122, 101] [56, 53, 56, 57, 57, 51, 52, 53, 57, 50]) = 19 := by
  have h2 : ∀ u, 10 ≤ u → u < 100 → Lib.nDigits u = 2 := fun u h1 h2 => by rw [Lib.nDigits_big (by omega), Lib.nDigits_small (by omega)]
  show psz 17 = 19
  unfold psz pdig
  rw [pgo, if_neg (by rw [h2 _ (by decide) (by decide)]; decide), pgo, if_pos (by rw [h2 _ (by decide) (by decide)]; decide)]
end Go.Xp
