/- A header, said in the reference's type. -/
import Derived.Test.YtknimfbagbkjfaaDoorBox
import Derived.Test.YtknimfbagbkjfaaDoorDraw
import Derived.Test.YtknimfbagbkjfaaDoorProg
import Derived.Test.YtknimfbagbkjfaaDoorFit
import Derived.Test.YtknimfbagbkjfaaDoorMapI
set_option linter.unusedSimpArgs false
set_option linter.unusedVariables false
set_option linter.unusedSectionVars false
namespace Go.Xp
open Go.Proofs

end Go.Xp

/- Layer 10 (fit): the reference, and the laws' helpers. -/
set_option linter.unusedSimpArgs false
set_option linter.unusedVariables false
set_option linter.unusedSectionVars false
namespace Go.Xp
open Go.Proofs

set_option maxRecDepth 100000 in
theorem law10_TooLarge (h : Heap) (k : Int) (p : List UInt8) (m : Int) (tg : List UInt8) (z : Int) (hp : p.length ≤ 140737488355328) (ht : tg.length ≤ 140737488355328) : Cal Tryd.prog 35 #[.agg #[.int .i64 (k), str p, .int .i64 (m), str tg, .int .i64 (z)]] h (fun v h' => v = .int .i64 ((if 70000 < p.length + tg.length then 1 else 0 : Int)) ∧ Ext h h') := by
 refine Cal_enter (args := [.agg #[.int .i64 (k), str p, .int .i64 (m), str tg, .int .i64 (z)]]) Tryd.func35 rfl rfl rfl (fun σ => ?_)
 refine Wr ?_
 refine L_mks (M_box rfl) rfl rfl rfl ?_
 rintro _ h1 ⟨rfl, hn1⟩
 have hk2 : Blk h1 h.size [.int .i64 (k), str p, .int .i64 (m), str tg, .int .i64 (z)] := hn1.blk
 refine Av ?_
 refine Nx ?_
 refine W_sub _ (tk2 2 1) ?_
 refine W_seq (W_seq (W_region ?_))
 refine Ly (Y_fieldAddr (off := 1) (by kernel_rfl) rfl rfl) ?_
 refine Ly (Y_ldblk Tryd.underlying9 rfl rfl hk2 rfl) ?_
 refine Ly (Y_slen Tryd.underlying9 rfl) ?_
 refine Ly (Y_fieldAddr (off := 3) (by kernel_rfl) rfl rfl) ?_
 refine Ly (Y_ldblk Tryd.underlying9 rfl rfl hk2 rfl) ?_
 refine Ly (Y_slen Tryd.underlying9 rfl) ?_
 refine Ly (Y_add rfl rfl (by omega) (by omega)) ?_
 refine Ly (Y_gtr rfl rfl) ?_
 refine Nx ?_
 refine W_sub _ (tk2 10 2) ?_
 refine W_splitd rfl (fun a => ?_) (fun a => ?_)
 ·refine Wr ?_
  refine Av ?_
  refine Nx ?_
  refine W_sub _ (tk1 2) ?_
  refine W_ret (X_then_ret ?_)
  refine X_ret1 rfl rfl ?_
  exact ⟨by rw [if_pos (by omega)], hn1.ext⟩
 refine Ws ?_
 refine W_sub _ (tk1 2) ?_
 refine Wr ?_
 refine Av ?_
 refine L_nil (X_then (W_ret ?_))
 refine X_ret1 rfl rfl ?_
 exact ⟨by rw [if_neg (by omega)], hn1.ext⟩
end Go.Xp

/- Layer 13 (tree): what Check answers. -/
set_option linter.unusedSimpArgs false
set_option linter.unusedVariables false
set_option linter.unusedSectionVars false
namespace Go.Xp
open Go.Proofs

def nsize (x : Nod) : Int := if x.kind = 1 then (x.data.length : Int) else 0
def nfc (x : Nod) : Int := fcheck x.kind x.path x.mode x.target (nsize x)
/-- What is wrong with a node by itself. -/
def tone (x : Nod) : Int :=
  if x.kind < 0 ∨ 2 < x.kind then 8 else if ¬ nfc x = 0 then nfc x else if ¬ x.kind = 1 ∧ 0 < x.data.length then 2 else if x.cls < 0 ∨ (¬ x.kind = 1 ∧ ¬ x.cls = 0) then 15 else 0
def fnd (l : List Nod) (q : List UInt8) (n : Nat) : Bool := decide (q = []) || (List.range n).any fun k => decide ((at_nod l k).kind = 0 ∧ (at_nod l k).path = q)
/-- The index of the first node of a class. -/
def nfirst : List Nod → Int → Nat
  | [], _ => 0
  | x :: r, c => if x.cls = c then 0 else nfirst r c + 1
theorem fnd_iff {l : List Nod} {q : List UInt8} {n : Nat} : fnd l q n = true ↔ (q = [] ∨ ∃ k, k < n ∧ (at_nod l k).kind = 0 ∧ (at_nod l k).path = q) := by
  unfold fnd; rw [Bool.or_eq_true, decide_eq_true_eq, List.any_eq_true]
  constructor
  · rintro (h | ⟨k, hk, h⟩)
    · exact .inl h
    · exact .inr ⟨k, List.mem_range.1 hk, of_decide_eq_true h⟩
  · rintro (h | ⟨k, hk, h⟩)
    · exact .inl h
    · exact .inr ⟨k, List.mem_range.2 hk, decide_eq_true h⟩
theorem nod_cons_succ (x : Nod) (r : List Nod) (k : Nat) : at_nod (x :: r) (k + 1) = at_nod r k := by simp [at_nod]
theorem nfirst_le : ∀ (l : List Nod) (c : Int), nfirst l c ≤ l.length
  | [], _ => Nat.le_refl _
  | x :: r, c => by
    have := nfirst_le r c
    unfold nfirst; split
    · omega
    · simp only [List.length_cons]; omega
theorem nfirst_ne : ∀ {l : List Nod} {c : Int} {k : Nat}, k < nfirst l c → ¬ (at_nod l k).cls = c
  | [], _, _, h => by cases h
  | x :: r, c, k, h => by
    unfold nfirst at h
    split at h
    · cases h
    · rename_i hx
      cases k with
      | zero => exact hx
      | succ k => rw [nod_cons_succ]; exact nfirst_ne (by omega)
theorem nfirst_cls : ∀ {l : List Nod} {c : Int}, nfirst l c < l.length → (at_nod l (nfirst l c)).cls = c
  | [], _, h => by cases h
  | x :: r, c, h => by
    unfold nfirst at h ⊢
    split
    · rename_i hx; exact hx
    · rename_i hx
      rw [if_neg hx] at h
      rw [nod_cons_succ]; exact nfirst_cls (by simpa using h)
theorem nfirst_eq {l : List Nod} {c : Int} {k : Nat} (hk : (at_nod l k).cls = c) (hn : ∀ j, j < k → ¬ (at_nod l j).cls = c) (hl : k < l.length) : nfirst l c = k := by
  have h1 := nfirst_le l c
  rcases Nat.lt_trichotomy (nfirst l c) k with h | h | h
  · exact absurd (nfirst_cls (by omega)) (hn _ h)
  · exact h
  · exact absurd hk (nfirst_ne h)
theorem nfirst_of {l : List Nod} {i : Nat} (hi : i < l.length) : nfirst l (at_nod l i).cls ≤ i := by
  apply Decidable.byContradiction; intro h
  exact nfirst_ne (l := l) (c := (at_nod l i).cls) (k := i) (by omega) rfl

section
variable {l : List Nod} {i : Nat}
end
/-! ### What the maps hold -/
def dirk (l : List Nod) : Nat → List (List UInt8)
  | 0 => [[]]
  | i + 1 => if (at_nod l i).kind = 0 then kins (dirk l i) (at_nod l i).path else dirk l i
theorem mem_dirk {l : List Nod} {q : List UInt8} : ∀ {i : Nat}, q ∈ dirk l i ↔ (q = [] ∨ ∃ k, k < i ∧ (at_nod l k).kind = 0 ∧ (at_nod l k).path = q)
  | 0 => by simp [dirk]
  | i + 1 => by
    have ih := mem_dirk (l := l) (q := q) (i := i)
    unfold dirk
    split
    · rename_i h
      rw [mem_kins, ih]
      constructor
      · rintro ((h1 | ⟨k, h1, h2⟩) | h1)
        · exact .inl h1
        · exact .inr ⟨k, by omega, h2⟩
        · exact .inr ⟨i, by omega, h, h1.symm⟩
      · rintro (h1 | ⟨k, h1, h2, h3⟩)
        · exact .inl (.inl h1)
        · rcases Nat.lt_or_ge k i with h4 | h4
          · exact .inl (.inr ⟨k, h4, h2, h3⟩)
          · obtain rfl : k = i := by omega
            exact .inr h3.symm
    · rename_i h
      rw [ih]
      constructor
      · rintro (h1 | ⟨k, h1, h2⟩)
        · exact .inl h1
        · exact .inr ⟨k, by omega, h2⟩
      · rintro (h1 | ⟨k, h1, h2, h3⟩)
        · exact .inl h1
        · rcases Nat.lt_or_ge k i with h4 | h4
          · exact .inr ⟨k, h4, h2, h3⟩
          · obtain rfl : k = i := by omega
            exact absurd h2 h
end Go.Xp
