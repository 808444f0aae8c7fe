/- Maps of any content from int or text to texts or ints: lists of keys and values, with what a double lookup answers. -/
import Derived.Test.YtknimfbagbkjfaaDoorMapI
import Derived.Test.YtknimfbagbkjfaaDoorCanT
set_option linter.unusedSimpArgs false
set_option linter.unusedVariables false
set_option linter.unusedSectionVars false
namespace Go.Xp

/-- What a list of keys and values holds of a key. -/
def aget {α β : Type} [DecidableEq α] : List (α × β) → α → Option β
  | [], _ => none
  | p :: r, k => if k = p.1 then some p.2 else aget r k
def aset {α β : Type} [DecidableEq α] : List (α × β) → α → β → List (α × β)
  | [], k, v => [(k, v)]
  | p :: r, k, v => if k = p.1 then (k, v) :: r else p :: aset r k v
theorem aget_aset {α β : Type} [DecidableEq α] (m : List (α × β)) (k k' : α) (v : β) : aget (aset m k v) k' = if k' = k then some v else aget m k' := by
  induction m with
  | nil => simp [aset, aget]
  | cons p r ih =>
    simp only [aset]
    split
    · rename_i h
      simp only [aget]
      by_cases h1 : k' = k
      · simp [h1]
      · rw [if_neg h1, if_neg h1, if_neg (by rw [← h]; exact h1)]
    · rename_i h
      simp only [aget, ih]
      by_cases h1 : k' = p.1
      · rw [if_pos h1, if_neg (by rintro rfl; exact h h1), if_pos h1]
      · rw [if_neg h1, if_neg h1]
/-- Block 'b' is a map with these keys and values, as 'ev' writes the values. -/
def MapA {α β : Type} [DecidableEq α] (enc : α → Value) (evl : β → Value) (h : Heap) (b : Nat) (m : List (α × β)) : Prop := MapK enc h b (m.map fun p => (p.1, evl p.2))
section
variable {α β : Type} [DecidableEq α] {enc : α → Value} {evl : β → Value}
theorem mget_map (m : List (α × β)) (k : α) : mget (m.map fun p => (p.1, evl p.2)) k = (aget m k).map evl := by
  induction m with
  | nil => rfl
  | cons p r ih =>
    simp only [List.map_cons, mget, aget, ih]
    split <;> rfl
theorem mset_map (m : List (α × β)) (k : α) (v : β) : mset (m.map fun p => (p.1, evl p.2)) k (evl v) = (aset m k v).map fun p => (p.1, evl p.2) := by
  induction m with
  | nil => rfl
  | cons p r ih =>
    simp only [List.map_cons, mset, aset]
    split
    · rfl
    · rw [ih]; rfl
theorem MapA.lt {h : Heap} {b : Nat} {m : List (α × β)} (x : MapA enc evl h b m) : b < h.size := MapK.lt x
theorem MapA.only {bs : List Nat} {h h' : Heap} {b : Nat} {m : List (α × β)} (x : MapA enc evl h b m) (y : Only bs h h') (hn : b ∉ bs) : MapA enc evl h' b m := MapK.only x y hn
theorem MapA.ext {h h' : Heap} {b : Nat} {m : List (α × β)} (x : MapA enc evl h b m) (y : Ext h h') : MapA enc evl h' b m := MapK.ext x y
theorem MapA.congr {h : Heap} {b : Nat} {m m' : List (α × β)} (x : MapA enc evl h b m) (e : m = m') : MapA enc evl h b m' := e ▸ x
section
variable {P : Program} {n : Nat} {e : Env} {h : Heap} {d : Option Tmp} {t : TypeId} {pos : String} {af : Array Edge} {g : Option (Nat × Bool)}
variable {T KT E : TypeId} {x y z : Operand} {b : Nat} {D : TypeDesc} {k : α} {v u : β} {m : List (α × β)}
theorem M_makeMapA : Mks P n e h ⟨d, .makeMap T none, t, pos, af, g⟩ (fun u h' => u = .map (some h.size) ∧ Ext h h' ∧ MapA enc evl h' h.size []) := M_makeMap enc
theorem Y_lookA (K : Key D enc) (hT : P.underlying T = some (.map KT E)) (hK : P.underlying KT = some D) (hz : (P.info? E).bind (·.zero) = some (evl u)) (hx : ev e x = some (.map (some b))) (hy : ev e y = some (enc k)) (hb : MapA enc evl h b m) :
    Yld P n e h ⟨d, .lookup T x y false, t, pos, af, g⟩ (evl ((aget m k).getD u)) := by
  have := Y_look (P := P) (n := n) (d := d) (t := t) (pos := pos) (af := af) (g := g) (k := k) K hT hK hz hx hy hb
  rw [mget_map] at this
  cases hq : aget m k with
  | none => rw [hq] at this; exact this
  | some q => rw [hq] at this; exact this
theorem Y_look2A (K : Key D enc) (hT : P.underlying T = some (.map KT E)) (hK : P.underlying KT = some D) (hz : (P.info? E).bind (·.zero) = some (evl u)) (hx : ev e x = some (.map (some b))) (hy : ev e y = some (enc k)) (hb : MapA enc evl h b m) :
    Yld P n e h ⟨d, .lookup T x y true, t, pos, af, g⟩ (.tuple #[evl ((aget m k).getD u), .bool (aget m k).isSome]) := by
  have := Y_look2 (P := P) (n := n) (d := d) (t := t) (pos := pos) (af := af) (g := g) (k := k) K hT hK hz hx hy hb
  rw [mget_map] at this
  cases hq : aget m k with
  | none => rw [hq] at this; exact this
  | some q => rw [hq] at this; exact this
theorem D_updA (K : Key D enc) (hT : P.underlying T = some (.map KT E)) (hK : P.underlying KT = some D) (hx : ev e x = some (.map (some b))) (hy : ev e y = some (enc k)) (hz : ev e z = some (evl v)) (hb : MapA enc evl h b m) :
    Dos P n e h ⟨d, .mapUpdate T x y z, t, pos, af, g⟩ (fun h' => Only [b] h h' ∧ h'.size = h.size ∧ MapA enc evl h' b (aset m k v)) := by
  have := D_update (P := P) (n := n) (d := d) (t := t) (pos := pos) (af := af) (g := g) (k := k) K hT hK hx hy hz hb
  rw [mset_map] at this; exact this
end
end
section
variable {P : Program} {n : Nat} {e : Env} {h : Heap} {d : Option Tmp} {t : TypeId} {pos : String} {af : Array Edge} {g : Option (Nat × Bool)}
variable {T KT E : TypeId} {x y z : Operand} {b : Nat} {k v : Int} {m : List (Int × Int)}
end
end Go.Xp

/- Layer 14 (flatten): the members of a tree: plain. -/
set_option linter.unusedSimpArgs false
set_option linter.unusedVariables false
set_option linter.unusedSectionVars false
namespace Go.Xp

/-- A member without the place of its data. -/
def erm (x : Mem) : Mem := ⟨x.kind, x.path, x.mode, x.target, x.size, .slice none 0 0, x.data⟩
/-- The member of node i. -/
def msp (C : List Nod) (i : Nat) : Mem :=
  if ((at_nod C i).kind = 1 ∧ 0 < (at_nod C i).cls) ∧ nfirst C (at_nod C i).cls < i then ⟨3, (at_nod C i).path, (at_nod C i).mode, (at_nod C (nfirst C (at_nod C i).cls)).path, 0, .slice none 0 0, []⟩
  else if (at_nod C i).kind = 1 then ⟨(at_nod C i).kind, (at_nod C i).path, (at_nod C i).mode, (at_nod C i).target, ((at_nod C i).data.length : Int), .slice none 0 0, (at_nod C i).data⟩
  else ⟨(at_nod C i).kind, (at_nod C i).path, (at_nod C i).mode, (at_nod C i).target, 0, .slice none 0 0, []⟩
def mem1 (C : List Nod) : List Mem := (List.range C.length).map (msp C)
/-- Only files have a class. -/
def Cfl (C : List Nod) : Prop := ∀ x ∈ C, 0 < x.cls → x.kind = 1
theorem TSet.cfl {C : List Nod} (h : TSet C) : Cfl C := fun x hx hc => by
  rcases tone_cls (h.one x hx) with q | q
  · omega
  · exact q.2
/-- The reference's search for the least path of a class. -/
def lst (C : List Nod) (i : Nat) : Nat → Nat
  | 0 => i
  | k + 1 => if ((0 < (at_nod C i).cls) ∧ ((at_nod C k).cls = (at_nod C i).cls)) ∧ pcmp (at_nod C k).path (at_nod C (lst C i k)).path < 0 then k else lst C i k
/-- The paths go up. -/
def Up (C : List Nod) : Prop := ∀ i j, i < j → j < C.length → nlt (at_nod C i) (at_nod C j)
theorem TSet.up {C : List Nod} (h : TSet C) (ha : Asc C) : Up C := fun i j hij hj => by
  have h1 := asc_at ha (Nat.le_of_lt hij) hj
  rcases nlt_cases (at_nod C i) (at_nod C j) with q | q | q
  · exact q
  · exact absurd q (h.ok.dup i j hij hj)
  · exact absurd q h1
theorem lst_eq {C : List Nod} (hu : Up C) {i : Nat} (hi : i < C.length) (hc : 0 < (at_nod C i).cls) : ∀ k, k ≤ C.length → lst C i k = if nfirst C (at_nod C i).cls < k ∧ nfirst C (at_nod C i).cls < i then nfirst C (at_nod C i).cls else i
  | 0, _ => by unfold lst; rw [if_neg (by omega)]
  | k + 1, h => by
    have ih := lst_eq hu hi hc k (by omega)
    have hfi := nfirst_of (l := C) hi
    unfold lst
    rw [ih]
    by_cases hf : nfirst C (at_nod C i).cls < k ∧ nfirst C (at_nod C i).cls < i
    · rw [if_pos hf, if_neg (show ¬ (((0 < (at_nod C i).cls) ∧ ((at_nod C k).cls = (at_nod C i).cls)) ∧ pcmp (at_nod C k).path (at_nod C (nfirst C (at_nod C i).cls)).path < 0) from fun q => nlt_nle (hu _ _ hf.1 (by omega)) q.2), if_pos ⟨by omega, hf.2⟩]
    · rw [if_neg hf]
      by_cases hk : (at_nod C k).cls = (at_nod C i).cls
      · have hle : nfirst C (at_nod C i).cls ≤ k := by have := nfirst_of (l := C) (i := k) (by omega); rw [hk] at this; exact this
        by_cases hki : k < i
        · have e : nfirst C (at_nod C i).cls = k := by omega
          rw [if_pos ⟨⟨hc, hk⟩, hu k i hki hi⟩, if_pos ⟨by omega, by omega⟩, e]
        · rw [if_neg, if_neg (by omega)]
          rintro ⟨-, q⟩
          rcases Nat.eq_or_lt_of_le (Nat.le_of_not_lt hki) with e | e
          · rw [← e] at q; exact nlt_nle q q
          · exact nlt_nle (hu i k e (by omega)) q
      · have hne : nfirst C (at_nod C i).cls ≠ k := fun q => hk (by rw [← q]; exact nfirst_cls (by omega))
        rw [if_neg (fun q => hk q.1.2), if_neg (by omega)]
theorem lst_no {C : List Nod} {i : Nat} (hc : ¬ 0 < (at_nod C i).cls) : ∀ k, lst C i k = i
  | 0 => rfl
  | k + 1 => by unfold lst; rw [if_neg (fun q => hc q.1.1), lst_no hc k]
theorem lst_lt {C : List Nod} {i : Nat} (hi : i < C.length) : ∀ k, k ≤ C.length → lst C i k < C.length
  | 0, _ => hi
  | k + 1, h => by
    unfold lst
    split
    · omega
    · exact lst_lt hi k (by omega)
/-- The reference's member of node i. -/
def rmem (C : List Nod) (i : Nat) : Mem :=
  if (at_nod C i).kind = 1 then (if lst C i C.length = i then ⟨(at_nod C i).kind, (at_nod C i).path, (at_nod C i).mode, (at_nod C i).target, ((at_nod C i).data.length : Int), .slice none 0 0, (at_nod C i).data⟩
    else ⟨3, (at_nod C i).path, (at_nod C i).mode, (at_nod C (lst C i C.length)).path, 0, .slice none 0 0, []⟩)
  else ⟨(at_nod C i).kind, (at_nod C i).path, (at_nod C i).mode, (at_nod C i).target, 0, .slice none 0 0, []⟩
theorem rmem_msp {C : List Nod} (hu : Up C) {i : Nat} (hi : i < C.length) : rmem C i = msp C i := by
  have hfi := nfirst_of (l := C) hi
  unfold rmem msp
  by_cases hk : (at_nod C i).kind = 1
  · rw [if_pos hk]
    by_cases hc : 0 < (at_nod C i).cls
    · by_cases hf : nfirst C (at_nod C i).cls < i
      · have e : lst C i C.length = nfirst C (at_nod C i).cls := by rw [lst_eq hu hi hc _ (Nat.le_refl _), if_pos ⟨by omega, hf⟩]
        rw [e, if_neg (show ¬ nfirst C (at_nod C i).cls = i by omega), if_pos ⟨⟨hk, hc⟩, hf⟩]
      · have e : lst C i C.length = i := by rw [lst_eq hu hi hc _ (Nat.le_refl _), if_neg (fun q => hf q.2)]
        rw [if_pos e, if_neg (show ¬ (((at_nod C i).kind = 1 ∧ 0 < (at_nod C i).cls) ∧ nfirst C (at_nod C i).cls < i) from fun q => hf q.2), if_pos hk]
    · rw [if_pos (lst_no hc C.length), if_neg (show ¬ (((at_nod C i).kind = 1 ∧ 0 < (at_nod C i).cls) ∧ nfirst C (at_nod C i).cls < i) from fun q => hc q.1.2), if_pos hk]
  · rw [if_neg hk, if_neg (show ¬ (((at_nod C i).kind = 1 ∧ 0 < (at_nod C i).cls) ∧ nfirst C (at_nod C i).cls < i) from fun q => hk q.1.1), if_neg hk]
end Go.Xp
