/- Maps of any content from int or text to texts or ints: lists of keys and values, with what a double lookup answers. -/
import Derived.Test.YtknimfbagbkjfaaDoorCanL
set_option linter.unusedSimpArgs false
set_option linter.unusedVariables false
set_option linter.unusedSectionVars false
namespace Go.Xp

/-- What a list of keys and values holds of a key. -/
def aget {α β : Type} [DecidableEq α] : List (α × β) → α → Option β
  | [], _ => none
  | p :: r, k => if k = p.1 then some p.2 else aget r k
def aset {α β : Type} [DecidableEq α] : List (α × β) → α → β → List (α × β)
  | [], k, v => [(k, v)]
  | p :: r, k, v => if k = p.1 then (k, v) :: r else p :: aset r k v
theorem aget_aset {α β : Type} [DecidableEq α] (m : List (α × β)) (k k' : α) (v : β) : aget (aset m k v) k' = if k' = k then some v else aget m k' := by
  induction m with
  | nil => simp [aset, aget]
  | cons p r ih =>
    simp only [aset]
    split
    · rename_i h
      simp only [aget]
      by_cases h1 : k' = k
      · simp [h1]
      · rw [if_neg h1, if_neg h1, if_neg (by rw [← h]; exact h1)]
    · rename_i h
      simp only [aget, ih]
      by_cases h1 : k' = p.1
      · rw [if_pos h1, if_neg (by rintro rfl; exact h h1), if_pos h1]
      · rw [if_neg h1, if_neg h1]
theorem aset_len_le {α β : Type} [DecidableEq α] (m : List (α × β)) (k : α) (v : β) : (aset m k v).length ≤ m.length + 1 := by
  induction m with
  | nil => simp [aset]
  | cons p r ih =>
    simp only [aset]
    split
    · simp
    · simp; omega
/-- Block 'b' is a map with these keys and values, as 'ev' writes the values. -/
def MapA {α β : Type} [DecidableEq α] (enc : α → Value) (evl : β → Value) (h : Heap) (b : Nat) (m : List (α × β)) : Prop := MapK enc h b (m.map fun p => (p.1, evl p.2))
section
variable {α β : Type} [DecidableEq α] {enc : α → Value} {evl : β → Value}
theorem mget_map (m : List (α × β)) (k : α) : mget (m.map fun p => (p.1, evl p.2)) k = (aget m k).map evl := by
  induction m with
  | nil => rfl
  | cons p r ih =>
    simp only [List.map_cons, mget, aget, ih]
    split <;> rfl
theorem mset_map (m : List (α × β)) (k : α) (v : β) : mset (m.map fun p => (p.1, evl p.2)) k (evl v) = (aset m k v).map fun p => (p.1, evl p.2) := by
  induction m with
  | nil => rfl
  | cons p r ih =>
    simp only [List.map_cons, mset, aset]
    split
    · rfl
    · rw [ih]; rfl
theorem MapA.lt {h : Heap} {b : Nat} {m : List (α × β)} (x : MapA enc evl h b m) : b < h.size := MapK.lt x
theorem MapA.only {bs : List Nat} {h h' : Heap} {b : Nat} {m : List (α × β)} (x : MapA enc evl h b m) (y : Only bs h h') (hn : b ∉ bs) : MapA enc evl h' b m := MapK.only x y hn
theorem MapA.ext {h h' : Heap} {b : Nat} {m : List (α × β)} (x : MapA enc evl h b m) (y : Ext h h') : MapA enc evl h' b m := MapK.ext x y
theorem MapA.congr {h : Heap} {b : Nat} {m m' : List (α × β)} (x : MapA enc evl h b m) (e : m = m') : MapA enc evl h b m' := e ▸ x
section
variable {P : Program} {n : Nat} {e : Env} {h : Heap} {d : Option Tmp} {t : TypeId} {pos : String} {af : Array Edge} {g : Option (Nat × Bool)}
variable {T KT E : TypeId} {x y z : Operand} {b : Nat} {D : TypeDesc} {k : α} {v u : β} {m : List (α × β)}
theorem M_makeMapA : Mks P n e h ⟨d, .makeMap T none, t, pos, af, g⟩ (fun u h' => u = .map (some h.size) ∧ Ext h h' ∧ MapA enc evl h' h.size []) := M_makeMap enc
theorem Y_lookA (K : Key D enc) (hT : P.underlying T = some (.map KT E)) (hK : P.underlying KT = some D) (hz : (P.info? E).bind (·.zero) = some (evl u)) (hx : ev e x = some (.map (some b))) (hy : ev e y = some (enc k)) (hb : MapA enc evl h b m) :
    Yld P n e h ⟨d, .lookup T x y false, t, pos, af, g⟩ (evl ((aget m k).getD u)) := by
  have := Y_look (P := P) (n := n) (d := d) (t := t) (pos := pos) (af := af) (g := g) (k := k) K hT hK hz hx hy hb
  rw [mget_map] at this
  cases hq : aget m k with
  | none => rw [hq] at this; exact this
  | some q => rw [hq] at this; exact this
theorem Y_look2A (K : Key D enc) (hT : P.underlying T = some (.map KT E)) (hK : P.underlying KT = some D) (hz : (P.info? E).bind (·.zero) = some (evl u)) (hx : ev e x = some (.map (some b))) (hy : ev e y = some (enc k)) (hb : MapA enc evl h b m) :
    Yld P n e h ⟨d, .lookup T x y true, t, pos, af, g⟩ (.tuple #[evl ((aget m k).getD u), .bool (aget m k).isSome]) := by
  have := Y_look2 (P := P) (n := n) (d := d) (t := t) (pos := pos) (af := af) (g := g) (k := k) K hT hK hz hx hy hb
  rw [mget_map] at this
  cases hq : aget m k with
  | none => rw [hq] at this; exact this
  | some q => rw [hq] at this; exact this
theorem D_updA (K : Key D enc) (hT : P.underlying T = some (.map KT E)) (hK : P.underlying KT = some D) (hx : ev e x = some (.map (some b))) (hy : ev e y = some (enc k)) (hz : ev e z = some (evl v)) (hb : MapA enc evl h b m) :
    Dos P n e h ⟨d, .mapUpdate T x y z, t, pos, af, g⟩ (fun h' => Only [b] h h' ∧ h'.size = h.size ∧ MapA enc evl h' b (aset m k v)) := by
  have := D_update (P := P) (n := n) (d := d) (t := t) (pos := pos) (af := af) (g := g) (k := k) K hT hK hx hy hz hb
  rw [mset_map] at this; exact this
theorem Y_lenA (hT : P.underlying T = some (.map KT E)) (hx : ev e x = some (.map (some b))) (hb : MapA enc evl h b m) : Yld P n e h ⟨d, .call { callee := .builtin .len, args := #[x], argTypes := #[T] }, t, pos, af, g⟩ (.int .i64 (m.length : Int)) := by
  have := Y_lenmap (P := P) (n := n) (e := e) (d := d) (t := t) (pos := pos) (af := af) (g := g) hT hx hb
  rw [show (m.map fun p => (p.1, evl p.2)).length = m.length by simp] at this; exact this
end
end
def ihas : List (Int × Int) → Int → Bool
  | [], _ => false
  | p :: r, k => if k = p.1 then true else ihas r k
theorem mget_ihas (m : List (Int × Int)) (k : Int) : (mget (ivs m) k).isSome = ihas m k := by
  induction m with
  | nil => rfl
  | cons p r ih =>
    simp only [ivs, List.map_cons, mget, ihas] at ih ⊢
    split
    · rfl
    · exact ih
theorem ihas_iset (m : List (Int × Int)) (k k' v : Int) : ihas (iset m k v) k' = (decide (k' = k) || ihas m k') := by
  induction m with
  | nil => simp [iset, ihas]
  | cons p r ih =>
    simp only [iset]
    split
    · rename_i h
      simp only [ihas]
      by_cases h1 : k' = k
      · simp [h1]
      · rw [if_neg h1, if_neg (by rw [← h]; exact h1)]; simp [h1]
    · rename_i h
      simp only [ihas, ih]
      by_cases h1 : k' = p.1
      · rw [if_pos h1, if_pos h1]; simp
      · rw [if_neg h1, if_neg h1]
section
variable {P : Program} {n : Nat} {e : Env} {h : Heap} {d : Option Tmp} {t : TypeId} {pos : String} {af : Array Edge} {g : Option (Nat × Bool)}
variable {T KT E : TypeId} {x y z : Operand} {b : Nat} {k v : Int} {m : List (Int × Int)}
theorem Y_look2I (hT : P.underlying T = some (.map KT E)) (hK : P.underlying KT = some (.int .i64)) (hz : (P.info? E).bind (·.zero) = some (.int .i64 0)) (hx : ev e x = some (.map (some b))) (hy : ev e y = some (.int .i64 k)) (hb : MapI h b m) :
    Yld P n e h ⟨d, .lookup T x y true, t, pos, af, g⟩ (.tuple #[.int .i64 (iget m k), .bool (ihas m k)]) := by
  have := Y_look2 (P := P) (n := n) (d := d) (t := t) (pos := pos) (af := af) (g := g) (k := k) keyI hT hK hz hx hy hb
  rw [mget_ivs, mget_ihas] at this; exact this
end
abbrev MapIS := MapA (fun z : Int => .int .i64 z) (fun l : List UInt8 => str l)
abbrev MapSI := MapA (fun l : List UInt8 => str l) (fun z : Int => .int .i64 z)
abbrev MapII := MapA (fun z : Int => .int .i64 z) (fun z : Int => .int .i64 z)
end Go.Xp
