/- Layer 2 (cstring): the walks of the program's functions and of its reference. -/
import Derived.Test.YtolfadbbhocikaaDoorLib
import Derived.Test.YtolfadbbhocikaaDoorProg
import Derived.KernelRfl
set_option linter.unusedSimpArgs false
set_option linter.unusedVariables false
namespace Go.Xp
open Go.Proofs

/-! ### Bytes -/
theorem byt_ne {l : List UInt8} {c : UInt8} (h : ∀ k, k < l.length → ¬ byt l k = (c.toNat : Int)) : c ∉ l := by
  intro hm
  obtain ⟨k, hk, he⟩ := List.getElem_of_mem hm
  exact h k hk (by rw [byt_eq hk, he])
theorem byt_mem {l : List UInt8} {c : UInt8} {k : Nat} (hk : k < l.length) (h : byt l k = (c.toNat : Int)) : c ∈ l := by
  rw [byt_eq hk] at h
  have : l[k] = c := UInt8.toNat_inj.1 (by omega)
  exact this ▸ List.getElem_mem hk
theorem step_ne {P : Nat → Prop} {i : Nat} (h : ∀ k, k < i → P k) (hi : P i) : ∀ k, k < i + 1 → P k := fun k hk => by
  rcases Nat.lt_succ_iff_lt_or_eq.1 hk with h1 | rfl
  · exact h k h1
  · exact hi
theorem indexByte_mem (l : List UInt8) (c : UInt8) : (0 ≤ Lib.indexByte l c) ↔ c ∈ l := by
  induction l with
  | nil => simp [Lib.indexByte]
  | cons a l ih =>
    simp only [Lib.indexByte, List.mem_cons]
    by_cases h : a = c
    · subst h; simp
    · have h2 : (a == c) = false := by simpa using h
      have h3 : ¬ c = a := fun h' => h h'.symm
      have := Lib.indexByte_ge l c
      rw [h2]
      simp only [Bool.false_eq_true, if_false, h3, false_or]
      rw [← ih]
      by_cases h1 : Lib.indexByte l c = -1
      · rw [h1]; simp
      · have h4 : (Lib.indexByte l c == -1) = false := by simpa using h1
        rw [h4]; simp only [Bool.false_eq_true, if_false]; omega

/-! ### What the layer answers -/
def cerr (s : List UInt8) (w : Int) : Int := if ¬ (1 ≤ w ∧ w ≤ 256) then 2 else if 0 ∈ s then 6 else if w < s.length then 7 else 0
def cfmt (s : List UInt8) (w : Int) : List UInt8 := if cerr s w = 0 then s ++ List.replicate (w.toNat - s.length) 0 else []






/-! ### Parse -/
def perr (b : List UInt8) : Int := if ¬ (1 ≤ b.length ∧ b.length ≤ 256) then 2 else if (b.dropWhile (· != 0)).all (· == 0) = true then 0 else 6
def pstr (b : List UInt8) : List UInt8 := if perr b = 0 then b.takeWhile (· != 0) else []
theorem cutA_zero (b : List UInt8) : cutA b 0 = b.takeWhile (· != 0) := by
  unfold cutA
  induction b with
  | nil => simp [Lib.indexByte]
  | cons a l ih =>
    have hg := Lib.indexByte_ge l 0
    by_cases h : a = 0
    · subst h; simp [Lib.indexByte]
    · have h2 : (a == 0) = false := by simpa using h
      have h3 : (a != 0) = true := by simpa using h
      simp only [Lib.indexByte, h2, Bool.false_eq_true, if_false, List.takeWhile_cons, h3, if_true]
      rw [← ih]
      by_cases h1 : Lib.indexByte l 0 = -1
      · rw [h1]; simp
      · have h4 : (Lib.indexByte l 0 == -1) = false := by simpa using h1
        have h5 : 0 ≤ Lib.indexByte l 0 := by omega
        simp only [h4, Bool.false_eq_true, if_false]
        rw [if_pos (by omega : 0 ≤ Lib.indexByte l 0 + 1), if_pos h5, show (Lib.indexByte l 0 + 1).toNat = (Lib.indexByte l 0).toNat + 1 by omega, List.take_succ_cons]
theorem cutB_zero (b : List UInt8) : cutB b 0 = (b.dropWhile (· != 0)).drop 1 := by
  unfold cutB
  induction b with
  | nil => simp [Lib.indexByte]
  | cons a l ih =>
    have hg := Lib.indexByte_ge l 0
    by_cases h : a = 0
    · subst h; simp [Lib.indexByte]
    · have h2 : (a == 0) = false := by simpa using h
      have h3 : (a != 0) = true := by simpa using h
      simp only [Lib.indexByte, h2, Bool.false_eq_true, if_false, List.dropWhile_cons, h3, if_true]
      rw [← ih]
      by_cases h1 : Lib.indexByte l 0 = -1
      · rw [h1]; simp
      · have h4 : (Lib.indexByte l 0 == -1) = false := by simpa using h1
        have h5 : 0 ≤ Lib.indexByte l 0 := by omega
        simp only [h4, Bool.false_eq_true, if_false]
        rw [if_pos (by omega : 0 ≤ Lib.indexByte l 0 + 1), if_pos h5, show (Lib.indexByte l 0 + 1 + 1).toNat = (Lib.indexByte l 0 + 1).toNat + 1 by omega, List.drop_succ_cons]
theorem all_byt {l : List UInt8} : l.all (· == 0) = true ↔ ∀ k, k < l.length → byt l k = 0 := by
  rw [List.all_eq_true]
  constructor
  · intro h k hk
    have := h _ (List.getElem_mem hk)
    rw [byt_eq hk]
    have h2 : l[k] = 0 := by simpa using this
    rw [h2]; rfl
  · intro h x hx
    obtain ⟨k, hk, rfl⟩ := List.getElem_of_mem hx
    have := h k hk
    rw [byt_eq hk] at this
    have h2 : l[k] = 0 := UInt8.toNat_inj.1 (by simpa using this)
    simpa using h2
theorem dropWhile_all (b : List UInt8) : (b.dropWhile (· != 0)).all (· == 0) = ((b.dropWhile (· != 0)).drop 1).all (· == 0) := by
  induction b with
  | nil => rfl
  | cons a l ih =>
    rw [List.dropWhile_cons]
    split
    · exact ih
    · rename_i h
      have : a = 0 := by simpa using h
      subst this; simp
theorem trim_ok {b : List UInt8} {n : Nat} (hn : n ≤ b.length) (hz : ∀ k, n ≤ k → k < b.length → byt b k = 0) (h0 : (0 : UInt8) ∉ b.take n) : b.takeWhile (· != 0) = b.take n ∧ (b.dropWhile (· != 0)).all (· == 0) = true := by
  have h1 : ∀ x ∈ b.take n, (x != 0) = true := fun x hx => by
    have : x ≠ 0 := fun h => h0 (h ▸ hx)
    simpa using this
  have h2 : (b.drop n).all (· == 0) = true := all_byt.2 (fun k hk => by
    have hk' : k < b.length - n := by simpa using hk
    have := hz (n + k) (by omega) (by omega)
    rw [byt_eq (by omega)] at this
    rw [byt_eq hk]; simpa using this)
  have h3 : (b.drop n).takeWhile (· != 0) = [] ∧ (b.drop n).dropWhile (· != 0) = b.drop n := by
    cases hd : b.drop n with
    | nil => simp
    | cons a l =>
      rw [hd] at h2
      have : a = 0 := by simp at h2; exact h2.1
      subst this; simp
  constructor
  · conv => lhs; rw [← List.take_append_drop n b]
    rw [List.takeWhile_append_of_pos h1, h3.1, List.append_nil]
  · have : b.dropWhile (· != 0) = b.drop n := by
      conv => lhs; rw [← List.take_append_drop n b]
      rw [List.dropWhile_append_of_pos h1, h3.2]
    rw [this]; exact h2
theorem trim_bad {b : List UInt8} {n i : Nat} (hn : n ≤ b.length) (hl : 0 < n → ¬ byt b (n - 1) = 0) (hi : i < n) (h0 : byt b i = 0) : ¬ (b.dropWhile (· != 0)).all (· == 0) = true := by
  intro hall
  have hl' := hl (by omega)
  have hlen : (b.takeWhile (· != 0)).length ≤ i := by
    apply Nat.le_of_not_lt
    intro hlt
    have h1 : (b.takeWhile (· != 0))[i]'hlt ≠ 0 := by
      have hm := List.getElem_mem hlt
      have h5 := List.all_eq_true.1 (List.all_takeWhile (p := (· != (0 : UInt8))) (l := b)) _ hm
      simpa using h5
    have h2 : (b.takeWhile (· != 0))[i]'hlt = b[i]'(by omega) := by
      have h3 := List.takeWhile_append_dropWhile (p := (· != (0 : UInt8))) (l := b)
      have h4 : b[i]? = (b.takeWhile (· != 0))[i]? := by
        conv => lhs; rw [← h3]
        rw [List.getElem?_append_left hlt]
      rw [List.getElem?_eq_getElem hlt, List.getElem?_eq_getElem (by omega)] at h4
      exact (Option.some.inj h4).symm
    rw [byt_eq (by omega)] at h0
    exact h1 (by rw [h2]; exact UInt8.toNat_inj.1 (by simpa using h0))
  have hd : b.dropWhile (· != 0) = b.drop (b.takeWhile (· != 0)).length := by
    have h3 := List.takeWhile_append_dropWhile (p := (· != (0 : UInt8))) (l := b)
    have h9 := List.drop_left (l₁ := b.takeWhile (· != 0)) (l₂ := b.dropWhile (· != 0))
    rw [h3] at h9
    exact h9.symm
  rw [hd] at hall
  have := all_byt.1 hall (n - 1 - (b.takeWhile (· != 0)).length) (by simp; omega)
  apply hl'
  rw [byt_eq (by omega)]
  rw [byt_eq (by simp; omega)] at this
  simp only [List.getElem_drop] at this
  have he : (b.takeWhile (· != 0)).length + (n - 1 - (b.takeWhile (· != 0)).length) = n - 1 := by omega
  simp only [he] at this
  exact this



end Go.Xp
