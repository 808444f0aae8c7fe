/- Slices of slices of bytes; parts of a row of the call's own. -/
import Derived.Test.YtknimfbagbkjfaaGreatDoorRws
set_option linter.unusedSimpArgs false
set_option linter.unusedVariables false
set_option linter.unusedSectionVars false
namespace Go.Xp

structure Byt where
  dv : Value
  data : List UInt8
def bytS : Sch Byt where
  z := 1
  pos := by decide
  cells x := [x.dv]
  len _ := rfl
  ok h x := Bytes h x.dv x.data
  one o u hu := by simp at hu; rw [hu]; exact o.cell1
  only o y hb := o.only y (fun b h => hb _ (by simp) b h)
  d := ⟨.slice none 0 0, []⟩
def at_byt (l : List Byt) (k : Nat) : Byt := l.getD k bytS.d
theorem Own.cuth {h : Heap} {base n k : Nat} {v : Value} {xs : List Value} (x : Own h base 1 v n xs) (hk : k ≤ n) : Own h base 1 (slcut 1 0 k v) k (xs.take k) := by
  obtain ⟨h1, ⟨rfl, rfl⟩ | ⟨g, cap, extra, rfl, hg, hb, hl, hn⟩⟩ := x
  · have : k = 0 := by omega
    subst this
    exact ⟨by simp, .inl ⟨rfl, rfl⟩⟩
  · refine ⟨by simp at h1 ⊢; omega, .inr ⟨g, cap, xs.drop k ++ extra, ?_, hg, ?_, ?_, by omega⟩⟩
    · show Value.slice (if cap = 0 then some _ else (some (⟨g, 0, none⟩ : Addr)).map (·.add (0 * 1))) (k - 0) (cap - 0) = _
      have e : (⟨g, 0, none⟩ : Addr).add (0 * 1) = ⟨g, 0, none⟩ := by unfold Addr.add; split <;> simp_all
      by_cases hc : cap = 0
      · rw [if_pos hc]; rfl
      · rw [if_neg hc, Option.map_some, e]; rfl
    · rw [← List.append_assoc, List.take_append_drop]; exact hb
    · rw [← List.append_assoc, List.take_append_drop]; exact hl
theorem OwnB.cuth {h : Heap} {base k : Nat} {v : Value} {l : List UInt8} (x : OwnB h base v l) (hk : k ≤ l.length) : OwnB h base (slcut 1 0 k v) (l.take k) := by
  have := Own.cuth x hk
  unfold OwnB
  rw [List.length_take, Nat.min_eq_left hk, List.map_take]; exact this
theorem slice_form {h : Heap} {v : Value} {l : List UInt8} (b : Bytes h v l) : ∃ x n c, v = .slice x n c := by
  obtain ⟨⟨a0, cap, rfl, _⟩, _⟩ := b; exact ⟨_, _, _, rfl⟩
section
variable {P : Program} {n : Nat} {e : Env} {h : Heap} {d : Option Tmp} {t : TypeId} {pos : String} {af : Array Edge} {g : Option (Nat × Bool)} {T E : TypeId} {x : Operand}
theorem Y_capnil (hT : P.underlying T = some (.slice E)) (hx : ev e x = some (.slice none 0 0)) : Yld P n e h ⟨d, .call { callee := .builtin .cap, args := #[x], argTypes := #[T] }, t, pos, af, g⟩ (.int .i64 0) := fun w a _ he => by
  refine run_blt rfl ?_
  simp [he.eval hx, Builtin.cap_, run_underlying hT, goInt]
end
/-- The first n slices' bytes, one after the other. -/
def bcat (l : List Byt) (n : Nat) : List UInt8 := (l.take n).flatMap (·.data)
theorem at_byt_eq {l : List Byt} {i : Nat} (h : i < l.length) : at_byt l i = l[i] := by
  rw [at_byt, List.getD_eq_getElem?_getD, List.getElem?_eq_getElem h]; rfl
theorem bcat_succ {l : List Byt} {i : Nat} (h : i < l.length) : bcat l (i + 1) = bcat l i ++ (at_byt l i).data := by
  unfold bcat
  rw [List.take_succ_eq_append_getElem h, List.flatMap_append, ← at_byt_eq h]; simp
theorem bcat_le {l : List Byt} {i : Nat} (h : i ≤ l.length) : (bcat l i).length ≤ (bcat l l.length).length := by
  have : bcat l l.length = bcat l i ++ (l.drop i).flatMap (·.data) := by
    unfold bcat; rw [List.take_length, ← List.flatMap_append, List.take_append_drop]
  rw [this, List.length_append]; omega
theorem bcat_four (v1 v2 v3 v4 : Value) (a b c d : List UInt8) : bcat [⟨v1, a⟩, ⟨v2, b⟩, ⟨v3, c⟩, ⟨v4, d⟩] ([⟨v1, a⟩, ⟨v2, b⟩, ⟨v3, c⟩, ⟨v4, d⟩] : List Byt).length = a ++ b ++ c ++ d := by
  simp [bcat]
end Go.Xp
