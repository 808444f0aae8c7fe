/- Rows of structs beside a map: what lasts when the map is written; an append with a proof of its own. -/
import Derived.Test.YtknimfbagbkjfaaDoorCanA
import Derived.Test.YtknimfbagbkjfaaDoorFlaL
import Derived.Test.YtknimfbagbkjfaaDoorTreeR
import Derived.Test.YtknimfbagbkjfaaDoorCanL
import Derived.Test.YtknimfbagbkjfaaDoorFlaM
import Derived.Test.YtknimfbagbkjfaaDoorTreeP
set_option linter.unusedSimpArgs false
set_option linter.unusedVariables false
set_option linter.unusedSectionVars false
namespace Go.Xp

instance : Sch2 memS where
  only2 {bs h h' x} o y hb := Row.only2 (show Bytes h x.dv x.data from o) y (fun b e => hb x.dv (by simp [memS]) b e)
theorem Row.noMap {α : Type} [DecidableEq α] {h : Heap} {z : Nat} {v : Value} {n : Nat} {cs : List Value} (x : Row h z v n cs) (hz : 0 < z) {enc : α → Value} {M : Nat} {m : List (α × Value)} (hm : MapK enc h M m) : ∀ b, blk2 v = some b → b ∉ [M] := fun b hb hM => by
  obtain ⟨⟨a, cap, rfl, h1, h2, h3⟩, h4⟩ := x
  cases a with
  | none => cases hb
  | some ad =>
    by_cases hn : n = 0
    · simp [blk2, hn] at hb
    · simp [blk2, hn] at hb
      rw [List.mem_singleton] at hM
      subst hb
      subst hM
      have hl : 0 < cs.length := by rw [h4]; exact Nat.mul_pos (by omega) hz
      have hc : ∃ u, cs[0]? = some u := ⟨cs[0]'hl, List.getElem?_eq_getElem hl⟩
      obtain ⟨u, hu⟩ := hc
      have := (h3 ad rfl).2 0 u hu
      have hg := MapK.get hm
      simp [cellAt, hg] at this
section
variable {α : Type} [DecidableEq α] {enc : α → Value} {H h : Heap} {M : Nat} {m : List (α × Value)}
end
section
variable {P : Program} {n : Nat} {e : Env} {h : Heap} {d : Option Tmp} {t : TypeId} {pos : String} {af : Array Edge} {g : Option (Nat × Bool)}
variable {T E : TypeId} {x y : Operand} {v u : Value} {β : Type} {S : Sch β} {l l2 : List β} {z base : Nat}
/-- An append, the data of all elements shown by hand. -/
theorem M_apprG {bytes : Nat} {z0 : Value} (hT : P.underlying T = some (.slice E)) (hE : elemRow P E z bytes z0) (hz : z = S.z) (hzz : z0.cells.size = z) (hbp : 0 < bytes) (hs : ev e x = some v) (hx : ev e y = some u) (hown : RowsO S h base v l) (hr : Rows S h u l2)
    (hbase : base ≤ h.size) (hb : (l.length + l2.length) * bytes ≤ 140737488355328) (hok : ∀ h', Only (blockOf v).toList h h' → (∀ b ∈ (blockOf v).toList, base ≤ b) → ∀ x ∈ l ++ l2, S.ok h' x) :
    Mks P n e h ⟨d, .call { callee := .builtin .append, args := #[x, y], argTypes := #[T, T] }, t, pos, af, g⟩ (fun r h' => AppR S h h' base v r (l ++ l2) ∧ (blockOf r = blockOf v ∨ blockOf r = some h.size)) := fun w a hh he => by
  subst hz
  have h1 : ∀ u ∈ l2.flatMap S.cells, u.oneCell' = true := fun u hu => by
    obtain ⟨x, hx0, hx⟩ := List.mem_flatMap.1 hu
    exact S.one (hr.2 x hx0) u hx
  obtain ⟨r, w', k1, k2, k3⟩ := M_append (P := P) (n := n) (d := d) (t := t) (pos := pos) (af := af) (g := g) hT hE hzz hbp hs hx hown.1 hr.1 h1 hbase hb w a hh he
  have hge : ∀ b ∈ (blockOf v).toList, base ≤ b := fun b hb => (Own.lt hown.1 b (by simpa using hb)).1
  refine ⟨r, w', k1, k2, ⟨⟨?_, hok _ k3.only hge⟩, k3.only, hge⟩, k3.lies⟩
  have := k3.own
  rw [List.flatMap_append, List.length_append]; exact this
end
end Go.Xp

/- Layer 13 (tree): the laws' helpers, and the law that Check and Find match the reference. -/
set_option linter.unusedSimpArgs false
set_option linter.unusedVariables false
set_option linter.unusedSectionVars false
namespace Go.Xp
open Go.Proofs

end Go.Xp

/- tree.Equal and the law that Canon and Equal are the reference's: what the code does. -/
set_option linter.unusedSimpArgs false
set_option linter.unusedVariables false
set_option linter.unusedSectionVars false
namespace Go.Xp
open Go.Proofs

theorem tree_Canon (h : Heap) (l : Value) (L : List Nod) (hL : Rows nodS h l L) (hm : L.length ≤ 1000000000) (hs : ∀ x ∈ L, x.path.length ≤ 100000000000 ∧ x.target.length ≤ 100000000000 ∧ x.data.length ≤ 100000000000) :
    Cal Tryd.prog 34 #[l] h (fun v h' => ∃ s0 L0, v = s0 ∧ Rows nodS h' s0 L0 ∧ (L0.length = L.length ∧ L0.map er = cno L) ∧ Ext h h') :=
  (tree_CanonR h l L hL (by omega) (fun x hx => by have := hs x hx; omega)).mono fun v h' ⟨e, x, L', q2, q1, q3, _⟩ => ⟨v, L', rfl, by rw [e, ← q1]; exact q2.rows rfl, ⟨q1, q3⟩, x⟩
end Go.Xp

/- Layer 14 (flatten): Members: what the code does, step by step. -/
set_option linter.unusedSimpArgs false
set_option linter.unusedVariables false
set_option linter.unusedSectionVars false
namespace Go.Xp
open Go.Proofs

theorem at_erm (L : List Mem) (k : Nat) : at_mem (L.map erm) k = erm (at_mem L k) := by
  unfold at_mem
  rw [List.getD_eq_getElem?_getD, List.getD_eq_getElem?_getD, List.getElem?_map]
  cases L[k]? <;> rfl
end Go.Xp

/- Layer 14 (flatten): the example. -/
set_option linter.unusedSimpArgs false
set_option linter.unusedVariables false
set_option linter.unusedSectionVars false
namespace Go.Xp
open Go.Proofs

end Go.Xp
