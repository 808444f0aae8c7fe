/- Maps of any content from int or text to texts or ints: lists of keys and values, with what a double lookup answers. -/
import Derived.Test.YtknimfbagbkjfaaDoorMapI
import Derived.Test.YtknimfbagbkjfaaDoorCanA
import Derived.Test.YtknimfbagbkjfaaDoorCanT
set_option linter.unusedSimpArgs false
set_option linter.unusedVariables false
set_option linter.unusedSectionVars false
namespace Go.Xp

/-- What a list of keys and values holds of a key. -/
def aget {α β : Type} [DecidableEq α] : List (α × β) → α → Option β
  | [], _ => none
  | p :: r, k => if k = p.1 then some p.2 else aget r k
def aset {α β : Type} [DecidableEq α] : List (α × β) → α → β → List (α × β)
  | [], k, v => [(k, v)]
  | p :: r, k, v => if k = p.1 then (k, v) :: r else p :: aset r k v
theorem aget_aset {α β : Type} [DecidableEq α] (m : List (α × β)) (k k' : α) (v : β) : aget (aset m k v) k' = if k' = k then some v else aget m k' := by
  induction m with
  | nil => simp [aset, aget]
  | cons p r ih =>
    simp only [aset]
    split
    · rename_i h
      simp only [aget]
      by_cases h1 : k' = k
      · simp [h1]
      · rw [if_neg h1, if_neg h1, if_neg (by rw [← h]; exact h1)]
    · rename_i h
      simp only [aget, ih]
      by_cases h1 : k' = p.1
      · rw [if_pos h1, if_neg (by rintro rfl; exact h h1), if_pos h1]
      · rw [if_neg h1, if_neg h1]
/-- Block 'b' is a map with these keys and values, as 'ev' writes the values. -/
def MapA {α β : Type} [DecidableEq α] (enc : α → Value) (evl : β → Value) (h : Heap) (b : Nat) (m : List (α × β)) : Prop := MapK enc h b (m.map fun p => (p.1, evl p.2))
section
variable {α β : Type} [DecidableEq α] {enc : α → Value} {evl : β → Value}
theorem mget_map (m : List (α × β)) (k : α) : mget (m.map fun p => (p.1, evl p.2)) k = (aget m k).map evl := by
  induction m with
  | nil => rfl
  | cons p r ih =>
    simp only [List.map_cons, mget, aget, ih]
    split <;> rfl
theorem mset_map (m : List (α × β)) (k : α) (v : β) : mset (m.map fun p => (p.1, evl p.2)) k (evl v) = (aset m k v).map fun p => (p.1, evl p.2) := by
  induction m with
  | nil => rfl
  | cons p r ih =>
    simp only [List.map_cons, mset, aset]
    split
    · rfl
    · rw [ih]; rfl
theorem MapA.lt {h : Heap} {b : Nat} {m : List (α × β)} (x : MapA enc evl h b m) : b < h.size := MapK.lt x
theorem MapA.only {bs : List Nat} {h h' : Heap} {b : Nat} {m : List (α × β)} (x : MapA enc evl h b m) (y : Only bs h h') (hn : b ∉ bs) : MapA enc evl h' b m := MapK.only x y hn
theorem MapA.ext {h h' : Heap} {b : Nat} {m : List (α × β)} (x : MapA enc evl h b m) (y : Ext h h') : MapA enc evl h' b m := MapK.ext x y
theorem MapA.congr {h : Heap} {b : Nat} {m m' : List (α × β)} (x : MapA enc evl h b m) (e : m = m') : MapA enc evl h b m' := e ▸ x
section
variable {P : Program} {n : Nat} {e : Env} {h : Heap} {d : Option Tmp} {t : TypeId} {pos : String} {af : Array Edge} {g : Option (Nat × Bool)}
variable {T KT E : TypeId} {x y z : Operand} {b : Nat} {D : TypeDesc} {k : α} {v u : β} {m : List (α × β)}
theorem M_makeMapA : Mks P n e h ⟨d, .makeMap T none, t, pos, af, g⟩ (fun u h' => u = .map (some h.size) ∧ Ext h h' ∧ MapA enc evl h' h.size []) := M_makeMap enc
theorem Y_lookA (K : Key D enc) (hT : P.underlying T = some (.map KT E)) (hK : P.underlying KT = some D) (hz : (P.info? E).bind (·.zero) = some (evl u)) (hx : ev e x = some (.map (some b))) (hy : ev e y = some (enc k)) (hb : MapA enc evl h b m) :
    Yld P n e h ⟨d, .lookup T x y false, t, pos, af, g⟩ (evl ((aget m k).getD u)) := by
  have := Y_look (P := P) (n := n) (d := d) (t := t) (pos := pos) (af := af) (g := g) (k := k) K hT hK hz hx hy hb
  rw [mget_map] at this
  cases hq : aget m k with
  | none => rw [hq] at this; exact this
  | some q => rw [hq] at this; exact this
theorem Y_look2A (K : Key D enc) (hT : P.underlying T = some (.map KT E)) (hK : P.underlying KT = some D) (hz : (P.info? E).bind (·.zero) = some (evl u)) (hx : ev e x = some (.map (some b))) (hy : ev e y = some (enc k)) (hb : MapA enc evl h b m) :
    Yld P n e h ⟨d, .lookup T x y true, t, pos, af, g⟩ (.tuple #[evl ((aget m k).getD u), .bool (aget m k).isSome]) := by
  have := Y_look2 (P := P) (n := n) (d := d) (t := t) (pos := pos) (af := af) (g := g) (k := k) K hT hK hz hx hy hb
  rw [mget_map] at this
  cases hq : aget m k with
  | none => rw [hq] at this; exact this
  | some q => rw [hq] at this; exact this
theorem D_updA (K : Key D enc) (hT : P.underlying T = some (.map KT E)) (hK : P.underlying KT = some D) (hx : ev e x = some (.map (some b))) (hy : ev e y = some (enc k)) (hz : ev e z = some (evl v)) (hb : MapA enc evl h b m) :
    Dos P n e h ⟨d, .mapUpdate T x y z, t, pos, af, g⟩ (fun h' => Only [b] h h' ∧ h'.size = h.size ∧ MapA enc evl h' b (aset m k v)) := by
  have := D_update (P := P) (n := n) (d := d) (t := t) (pos := pos) (af := af) (g := g) (k := k) K hT hK hx hy hz hb
  rw [mset_map] at this; exact this
end
end
section
variable {P : Program} {n : Nat} {e : Env} {h : Heap} {d : Option Tmp} {t : TypeId} {pos : String} {af : Array Edge} {g : Option (Nat × Bool)}
variable {T KT E : TypeId} {x y z : Operand} {b : Nat} {k v : Int} {m : List (Int × Int)}
end
abbrev MapIS := MapA (fun z : Int => .int .i64 z) (fun l : List UInt8 => str l)
end Go.Xp

/- Rows of structs beside a map: what lasts when the map is written; an append with a proof of its own. -/
set_option linter.unusedSimpArgs false
set_option linter.unusedVariables false
set_option linter.unusedSectionVars false
namespace Go.Xp

instance : Sch2 memS where
  only2 {bs h h' x} o y hb := Row.only2 (show Bytes h x.dv x.data from o) y (fun b e => hb x.dv (by simp [memS]) b e)
theorem Row.noMap {α : Type} [DecidableEq α] {h : Heap} {z : Nat} {v : Value} {n : Nat} {cs : List Value} (x : Row h z v n cs) (hz : 0 < z) {enc : α → Value} {M : Nat} {m : List (α × Value)} (hm : MapK enc h M m) : ∀ b, blk2 v = some b → b ∉ [M] := fun b hb hM => by
  obtain ⟨⟨a, cap, rfl, h1, h2, h3⟩, h4⟩ := x
  cases a with
  | none => cases hb
  | some ad =>
    by_cases hn : n = 0
    · simp [blk2, hn] at hb
    · simp [blk2, hn] at hb
      rw [List.mem_singleton] at hM
      subst hb
      subst hM
      have hl : 0 < cs.length := by rw [h4]; exact Nat.mul_pos (by omega) hz
      have hc : ∃ u, cs[0]? = some u := ⟨cs[0]'hl, List.getElem?_eq_getElem hl⟩
      obtain ⟨u, hu⟩ := hc
      have := (h3 ad rfl).2 0 u hu
      have hg := MapK.get hm
      simp [cellAt, hg] at this
section
variable {α : Type} [DecidableEq α] {enc : α → Value} {H h : Heap} {M : Nat} {m : List (α × Value)}
/-- Rows of nodes that stood beside the map. -/
theorem rowsN_onlyM {v : Value} {L : List Nod} (x : Rows nodS H v L) (y : Only [M] H h) (hm : MapK enc H M m) : Rows nodS h v L :=
  ⟨Row.only2 x.1 y (Row.noMap x.1 (by decide) hm), fun a ha => Row.only2 (show Bytes H a.dv a.data from x.2 a ha) y (Row.noMap (show Bytes H a.dv a.data from x.2 a ha) (by decide) hm)⟩
theorem okM_onlyM {x : Mem} (o : memS.ok H x) (y : Only [M] H h) (hm : MapK enc H M m) : memS.ok h x :=
  Row.only2 (show Bytes H x.dv x.data from o) y (Row.noMap (show Bytes H x.dv x.data from o) (by decide) hm)
theorem rowsO_onlyM {base : Nat} {v : Value} {l : List Mem} (x : RowsO memS H base v l) (y : Only [M] H h) (hlt : M < base) (hm : MapK enc H M m) : RowsO memS h base v l :=
  ⟨Own.only x.1 y (fun b hb hM => by
    have := (Own.lt x.1 b hb).1
    rw [List.mem_singleton.1 hM] at this; omega), fun a ha => okM_onlyM (x.2 a ha) y hm⟩
theorem only_app {h' : Heap} {bs : List Nat} (x : Only [M] H h) (y : Only bs h h') (hge : ∀ b ∈ bs, H.size ≤ b) : Only [M] H h' := Only.trans x y (fun b hb => .inr (hge b hb))
end
section
variable {P : Program} {n : Nat} {e : Env} {h : Heap} {d : Option Tmp} {t : TypeId} {pos : String} {af : Array Edge} {g : Option (Nat × Bool)}
variable {T E : TypeId} {x y : Operand} {v u : Value} {β : Type} {S : Sch β} {l l2 : List β} {z base : Nat}
/-- An append, the data of all elements shown by hand. -/
theorem M_apprG {bytes : Nat} {z0 : Value} (hT : P.underlying T = some (.slice E)) (hE : elemRow P E z bytes z0) (hz : z = S.z) (hzz : z0.cells.size = z) (hbp : 0 < bytes) (hs : ev e x = some v) (hx : ev e y = some u) (hown : RowsO S h base v l) (hr : Rows S h u l2)
    (hbase : base ≤ h.size) (hb : (l.length + l2.length) * bytes ≤ 140737488355328) (hok : ∀ h', Only (blockOf v).toList h h' → (∀ b ∈ (blockOf v).toList, base ≤ b) → ∀ x ∈ l ++ l2, S.ok h' x) :
    Mks P n e h ⟨d, .call { callee := .builtin .append, args := #[x, y], argTypes := #[T, T] }, t, pos, af, g⟩ (fun r h' => AppR S h h' base v r (l ++ l2) ∧ (blockOf r = blockOf v ∨ blockOf r = some h.size)) := fun w a hh he => by
  subst hz
  have h1 : ∀ u ∈ l2.flatMap S.cells, u.oneCell' = true := fun u hu => by
    obtain ⟨x, hx0, hx⟩ := List.mem_flatMap.1 hu
    exact S.one (hr.2 x hx0) u hx
  obtain ⟨r, w', k1, k2, k3⟩ := M_append (P := P) (n := n) (d := d) (t := t) (pos := pos) (af := af) (g := g) hT hE hzz hbp hs hx hown.1 hr.1 h1 hbase hb w a hh he
  have hge : ∀ b ∈ (blockOf v).toList, base ≤ b := fun b hb => (Own.lt hown.1 b (by simpa using hb)).1
  refine ⟨r, w', k1, k2, ⟨⟨?_, hok _ k3.only hge⟩, k3.only, hge⟩, k3.lies⟩
  have := k3.own
  rw [List.flatMap_append, List.length_append]; exact this
end
end Go.Xp

/- Layer 14 (flatten): the members of a tree: plain. -/
set_option linter.unusedSimpArgs false
set_option linter.unusedVariables false
set_option linter.unusedSectionVars false
namespace Go.Xp

/-- A member without the place of its data. -/
def erm (x : Mem) : Mem := ⟨x.kind, x.path, x.mode, x.target, x.size, .slice none 0 0, x.data⟩
/-- A file of a class of which one has been seen already. -/
def lnk (M : List (Int × List UInt8)) (x : Nod) : Prop := (x.kind = 1 ∧ 0 < x.cls) ∧ (aget M x.cls).isSome = true
instance (M : List (Int × List UInt8)) (x : Nod) : Decidable (lnk M x) := by unfold lnk; infer_instance
def mmem (M : List (Int × List UInt8)) (x : Nod) : Mem :=
  if lnk M x then ⟨3, x.path, x.mode, (aget M x.cls).getD [], 0, .slice none 0 0, []⟩
  else if x.kind = 1 then ⟨x.kind, x.path, x.mode, x.target, (x.data.length : Int), x.dv, x.data⟩
  else ⟨x.kind, x.path, x.mode, x.target, 0, .slice none 0 0, []⟩
def mmap (M : List (Int × List UInt8)) (x : Nod) : List (Int × List UInt8) := if lnk M x then M else if x.kind = 1 then aset M x.cls x.path else M
/-- The map behind the first k nodes. -/
def mmk (C : List Nod) : Nat → List (Int × List UInt8)
  | 0 => []
  | k + 1 => mmap (mmk C k) (at_nod C k)
def mms (C : List Nod) : Nat → List Mem
  | 0 => []
  | k + 1 => mms C k ++ [mmem (mmk C k) (at_nod C k)]
@[simp] theorem mms_len (C : List Nod) : ∀ k, (mms C k).length = k
  | 0 => rfl
  | k + 1 => by unfold mms; rw [List.length_append, mms_len C k]; rfl
/-- The member of node i. -/
def msp (C : List Nod) (i : Nat) : Mem :=
  if ((at_nod C i).kind = 1 ∧ 0 < (at_nod C i).cls) ∧ nfirst C (at_nod C i).cls < i then ⟨3, (at_nod C i).path, (at_nod C i).mode, (at_nod C (nfirst C (at_nod C i).cls)).path, 0, .slice none 0 0, []⟩
  else if (at_nod C i).kind = 1 then ⟨(at_nod C i).kind, (at_nod C i).path, (at_nod C i).mode, (at_nod C i).target, ((at_nod C i).data.length : Int), .slice none 0 0, (at_nod C i).data⟩
  else ⟨(at_nod C i).kind, (at_nod C i).path, (at_nod C i).mode, (at_nod C i).target, 0, .slice none 0 0, []⟩
def mem1 (C : List Nod) : List Mem := (List.range C.length).map (msp C)
/-- Only files have a class. -/
def Cfl (C : List Nod) : Prop := ∀ x ∈ C, 0 < x.cls → x.kind = 1
theorem TSet.cfl {C : List Nod} (h : TSet C) : Cfl C := fun x hx hc => by
  rcases tone_cls (h.one x hx) with q | q
  · omega
  · exact q.2
theorem mmk_get {C : List Nod} (hC : Cfl C) {c : Int} (hc : 0 < c) : ∀ k, k ≤ C.length → aget (mmk C k) c = if nfirst C c < k then some (at_nod C (nfirst C c)).path else none
  | 0, _ => rfl
  | k + 1, h => by
    have ih := mmk_get hC hc k (by omega)
    unfold mmk mmap
    by_cases e : (at_nod C k).cls = c
    · have hk1 := hC _ (can_mem (show k < C.length by omega)) (by omega)
      have hle : nfirst C c ≤ k := by have := nfirst_of (l := C) (i := k) (by omega); rw [e] at this; exact this
      by_cases hf : nfirst C c < k
      · have hl : lnk (mmk C k) (at_nod C k) := ⟨⟨hk1, by rw [e]; exact hc⟩, by rw [e, ih, if_pos hf]; rfl⟩
        rw [if_pos hl, ih, if_pos hf, if_pos (by omega)]
      · have hl : ¬ lnk (mmk C k) (at_nod C k) := fun q => by
          have := q.2
          rw [e, ih, if_neg hf] at this; cases this
        rw [if_neg hl, if_pos hk1, e, aget_aset, if_pos rfl, if_pos (by omega), show nfirst C c = k by omega]
    · have hne : nfirst C c ≠ k := fun q => e (by rw [← q]; exact nfirst_cls (by omega))
      have e2 : (if nfirst C c < k + 1 then some (at_nod C (nfirst C c)).path else none) = if nfirst C c < k then some (at_nod C (nfirst C c)).path else none := by
        by_cases hf : nfirst C c < k
        · rw [if_pos hf, if_pos (by omega)]
        · rw [if_neg hf, if_neg (by omega)]
      rw [e2]
      split
      · exact ih
      · split
        · rw [aget_aset, if_neg (fun q => e q.symm)]; exact ih
        · exact ih
theorem nod_er_cls (C : List Nod) (c : Int) : nfirst (C.map er) c = nfirst C c := by
  induction C with
  | nil => rfl
  | cons x r ih =>
    simp only [List.map_cons, nfirst]
    rw [ih]; rfl
theorem msp_er (C : List Nod) (i : Nat) : msp (C.map er) i = erm (msp C i) := by
  unfold msp
  rw [at_er, nod_er_cls]
  show (if (((at_nod C i).kind = 1 ∧ 0 < (at_nod C i).cls) ∧ nfirst C (at_nod C i).cls < i) then _ else _) = _
  split
  · rw [show (er (at_nod C i)).cls = (at_nod C i).cls from rfl, at_er]; rfl
  · show (if (at_nod C i).kind = 1 then _ else _) = _
    split <;> rfl
theorem mmem_msp {C : List Nod} (hC : Cfl C) {i : Nat} (hi : i < C.length) : erm (mmem (mmk C i) (at_nod C i)) = msp (C.map er) i := by
  rw [msp_er]
  by_cases h : (at_nod C i).kind = 1 ∧ 0 < (at_nod C i).cls
  · have hg := mmk_get hC h.2 i (by omega)
    by_cases hf : nfirst C (at_nod C i).cls < i
    · have hl : lnk (mmk C i) (at_nod C i) := ⟨h, by rw [hg, if_pos hf]; rfl⟩
      unfold mmem msp
      rw [if_pos hl, if_pos ⟨h, hf⟩, hg, if_pos hf]; rfl
    · have hl : ¬ lnk (mmk C i) (at_nod C i) := fun q => by
        have := q.2
        rw [hg, if_neg hf] at this; cases this
      unfold mmem msp
      rw [if_neg hl, if_neg (show ¬ (((at_nod C i).kind = 1 ∧ 0 < (at_nod C i).cls) ∧ nfirst C (at_nod C i).cls < i) from fun q => hf q.2)]
      split <;> rfl
  · have hl : ¬ lnk (mmk C i) (at_nod C i) := fun q => h q.1
    unfold mmem msp
    rw [if_neg hl, if_neg (show ¬ (((at_nod C i).kind = 1 ∧ 0 < (at_nod C i).cls) ∧ nfirst C (at_nod C i).cls < i) from fun q => h q.1)]
    split <;> rfl
theorem mms_mem1 {C : List Nod} (hC : Cfl C) : (mms C C.length).map erm = mem1 (C.map er) := by
  have : ∀ k, k ≤ C.length → (mms C k).map erm = (List.range k).map (msp (C.map er)) := by
    intro k
    induction k with
    | zero => intro _; rfl
    | succ k ih =>
      intro h
      unfold mms
      rw [List.map_append, ih (by omega), List.range_succ, List.map_append, List.map_cons, List.map_nil, List.map_cons, List.map_nil, mmem_msp hC (by omega)]
  rw [this _ (Nat.le_refl _)]
  unfold mem1
  rw [List.length_map]
/-- The paths go up. -/
def Up (C : List Nod) : Prop := ∀ i j, i < j → j < C.length → nlt (at_nod C i) (at_nod C j)
theorem TSet.up {C : List Nod} (h : TSet C) (ha : Asc C) : Up C := fun i j hij hj => by
  have h1 := asc_at ha (Nat.le_of_lt hij) hj
  rcases nlt_cases (at_nod C i) (at_nod C j) with q | q | q
  · exact q
  · exact absurd q (h.ok.dup i j hij hj)
  · exact absurd q h1
end Go.Xp
