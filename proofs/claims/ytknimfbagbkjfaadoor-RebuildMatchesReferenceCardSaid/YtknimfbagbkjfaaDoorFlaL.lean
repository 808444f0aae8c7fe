/- Maps of any content from int or text to texts or ints: lists of keys and values, with what a double lookup answers. -/
import Derived.Test.YtknimfbagbkjfaaDoorTreeP
import Derived.Test.YtknimfbagbkjfaaDoorCanT
set_option linter.unusedSimpArgs false
set_option linter.unusedVariables false
set_option linter.unusedSectionVars false
namespace Go.Xp

/-- What a list of keys and values holds of a key. -/
def aget {α β : Type} [DecidableEq α] : List (α × β) → α → Option β
  | [], _ => none
  | p :: r, k => if k = p.1 then some p.2 else aget r k
def aset {α β : Type} [DecidableEq α] : List (α × β) → α → β → List (α × β)
  | [], k, v => [(k, v)]
  | p :: r, k, v => if k = p.1 then (k, v) :: r else p :: aset r k v
theorem aget_aset {α β : Type} [DecidableEq α] (m : List (α × β)) (k k' : α) (v : β) : aget (aset m k v) k' = if k' = k then some v else aget m k' := by
  induction m with
  | nil => simp [aset, aget]
  | cons p r ih =>
    simp only [aset]
    split
    · rename_i h
      simp only [aget]
      by_cases h1 : k' = k
      · simp [h1]
      · rw [if_neg h1, if_neg h1, if_neg (by rw [← h]; exact h1)]
    · rename_i h
      simp only [aget, ih]
      by_cases h1 : k' = p.1
      · rw [if_pos h1, if_neg (by rintro rfl; exact h h1), if_pos h1]
      · rw [if_neg h1, if_neg h1]
/-- Block 'b' is a map with these keys and values, as 'ev' writes the values. -/
def MapA {α β : Type} [DecidableEq α] (enc : α → Value) (evl : β → Value) (h : Heap) (b : Nat) (m : List (α × β)) : Prop := MapK enc h b (m.map fun p => (p.1, evl p.2))
section
variable {α β : Type} [DecidableEq α] {enc : α → Value} {evl : β → Value}
theorem mget_map (m : List (α × β)) (k : α) : mget (m.map fun p => (p.1, evl p.2)) k = (aget m k).map evl := by
  induction m with
  | nil => rfl
  | cons p r ih =>
    simp only [List.map_cons, mget, aget, ih]
    split <;> rfl
theorem mset_map (m : List (α × β)) (k : α) (v : β) : mset (m.map fun p => (p.1, evl p.2)) k (evl v) = (aset m k v).map fun p => (p.1, evl p.2) := by
  induction m with
  | nil => rfl
  | cons p r ih =>
    simp only [List.map_cons, mset, aset]
    split
    · rfl
    · rw [ih]; rfl
theorem MapA.lt {h : Heap} {b : Nat} {m : List (α × β)} (x : MapA enc evl h b m) : b < h.size := MapK.lt x
theorem MapA.only {bs : List Nat} {h h' : Heap} {b : Nat} {m : List (α × β)} (x : MapA enc evl h b m) (y : Only bs h h') (hn : b ∉ bs) : MapA enc evl h' b m := MapK.only x y hn
theorem MapA.ext {h h' : Heap} {b : Nat} {m : List (α × β)} (x : MapA enc evl h b m) (y : Ext h h') : MapA enc evl h' b m := MapK.ext x y
theorem MapA.congr {h : Heap} {b : Nat} {m m' : List (α × β)} (x : MapA enc evl h b m) (e : m = m') : MapA enc evl h b m' := e ▸ x
section
variable {P : Program} {n : Nat} {e : Env} {h : Heap} {d : Option Tmp} {t : TypeId} {pos : String} {af : Array Edge} {g : Option (Nat × Bool)}
variable {T KT E : TypeId} {x y z : Operand} {b : Nat} {D : TypeDesc} {k : α} {v u : β} {m : List (α × β)}
theorem M_makeMapA : Mks P n e h ⟨d, .makeMap T none, t, pos, af, g⟩ (fun u h' => u = .map (some h.size) ∧ Ext h h' ∧ MapA enc evl h' h.size []) := M_makeMap enc
theorem Y_lookA (K : Key D enc) (hT : P.underlying T = some (.map KT E)) (hK : P.underlying KT = some D) (hz : (P.info? E).bind (·.zero) = some (evl u)) (hx : ev e x = some (.map (some b))) (hy : ev e y = some (enc k)) (hb : MapA enc evl h b m) :
    Yld P n e h ⟨d, .lookup T x y false, t, pos, af, g⟩ (evl ((aget m k).getD u)) := by
  have := Y_look (P := P) (n := n) (d := d) (t := t) (pos := pos) (af := af) (g := g) (k := k) K hT hK hz hx hy hb
  rw [mget_map] at this
  cases hq : aget m k with
  | none => rw [hq] at this; exact this
  | some q => rw [hq] at this; exact this
theorem Y_look2A (K : Key D enc) (hT : P.underlying T = some (.map KT E)) (hK : P.underlying KT = some D) (hz : (P.info? E).bind (·.zero) = some (evl u)) (hx : ev e x = some (.map (some b))) (hy : ev e y = some (enc k)) (hb : MapA enc evl h b m) :
    Yld P n e h ⟨d, .lookup T x y true, t, pos, af, g⟩ (.tuple #[evl ((aget m k).getD u), .bool (aget m k).isSome]) := by
  have := Y_look2 (P := P) (n := n) (d := d) (t := t) (pos := pos) (af := af) (g := g) (k := k) K hT hK hz hx hy hb
  rw [mget_map] at this
  cases hq : aget m k with
  | none => rw [hq] at this; exact this
  | some q => rw [hq] at this; exact this
theorem D_updA (K : Key D enc) (hT : P.underlying T = some (.map KT E)) (hK : P.underlying KT = some D) (hx : ev e x = some (.map (some b))) (hy : ev e y = some (enc k)) (hz : ev e z = some (evl v)) (hb : MapA enc evl h b m) :
    Dos P n e h ⟨d, .mapUpdate T x y z, t, pos, af, g⟩ (fun h' => Only [b] h h' ∧ h'.size = h.size ∧ MapA enc evl h' b (aset m k v)) := by
  have := D_update (P := P) (n := n) (d := d) (t := t) (pos := pos) (af := af) (g := g) (k := k) K hT hK hx hy hz hb
  rw [mset_map] at this; exact this
end
end
section
variable {P : Program} {n : Nat} {e : Env} {h : Heap} {d : Option Tmp} {t : TypeId} {pos : String} {af : Array Edge} {g : Option (Nat × Bool)}
variable {T KT E : TypeId} {x y z : Operand} {b : Nat} {k v : Int} {m : List (Int × Int)}
end
end Go.Xp

/- Layer 14 (flatten): the members of a tree: plain. -/
set_option linter.unusedSimpArgs false
set_option linter.unusedVariables false
set_option linter.unusedSectionVars false
namespace Go.Xp

/-- A member without the place of its data. -/
def erm (x : Mem) : Mem := ⟨x.kind, x.path, x.mode, x.target, x.size, .slice none 0 0, x.data⟩
/-- The member of node i. -/
def msp (C : List Nod) (i : Nat) : Mem :=
  if ((at_nod C i).kind = 1 ∧ 0 < (at_nod C i).cls) ∧ nfirst C (at_nod C i).cls < i then ⟨3, (at_nod C i).path, (at_nod C i).mode, (at_nod C (nfirst C (at_nod C i).cls)).path, 0, .slice none 0 0, []⟩
  else if (at_nod C i).kind = 1 then ⟨(at_nod C i).kind, (at_nod C i).path, (at_nod C i).mode, (at_nod C i).target, ((at_nod C i).data.length : Int), .slice none 0 0, (at_nod C i).data⟩
  else ⟨(at_nod C i).kind, (at_nod C i).path, (at_nod C i).mode, (at_nod C i).target, 0, .slice none 0 0, []⟩
def mem1 (C : List Nod) : List Mem := (List.range C.length).map (msp C)
/-- Only files have a class. -/
def Cfl (C : List Nod) : Prop := ∀ x ∈ C, 0 < x.cls → x.kind = 1
theorem TSet.cfl {C : List Nod} (h : TSet C) : Cfl C := fun x hx hc => by
  rcases tone_cls (h.one x hx) with q | q
  · omega
  · exact q.2
/-- The paths go up. -/
def Up (C : List Nod) : Prop := ∀ i j, i < j → j < C.length → nlt (at_nod C i) (at_nod C j)
theorem TSet.up {C : List Nod} (h : TSet C) (ha : Asc C) : Up C := fun i j hij hj => by
  have h1 := asc_at ha (Nat.le_of_lt hij) hj
  rcases nlt_cases (at_nod C i) (at_nod C j) with q | q | q
  · exact q
  · exact absurd q (h.ok.dup i j hij hj)
  · exact absurd q h1
end Go.Xp
