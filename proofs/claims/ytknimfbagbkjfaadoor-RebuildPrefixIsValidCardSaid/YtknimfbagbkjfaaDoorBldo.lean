/- Maps of any content from int or text to texts or ints: lists of keys and values, with what a double lookup answers. -/
import Derived.Test.YtknimfbagbkjfaaDoorMapI
import Derived.Test.YtknimfbagbkjfaaDoorCanA
set_option linter.unusedSimpArgs false
set_option linter.unusedVariables false
set_option linter.unusedSectionVars false
namespace Go.Xp

/-- What a list of keys and values holds of a key. -/
def aget {α β : Type} [DecidableEq α] : List (α × β) → α → Option β
  | [], _ => none
  | p :: r, k => if k = p.1 then some p.2 else aget r k
def aset {α β : Type} [DecidableEq α] : List (α × β) → α → β → List (α × β)
  | [], k, v => [(k, v)]
  | p :: r, k, v => if k = p.1 then (k, v) :: r else p :: aset r k v
theorem aget_aset {α β : Type} [DecidableEq α] (m : List (α × β)) (k k' : α) (v : β) : aget (aset m k v) k' = if k' = k then some v else aget m k' := by
  induction m with
  | nil => simp [aset, aget]
  | cons p r ih =>
    simp only [aset]
    split
    · rename_i h
      simp only [aget]
      by_cases h1 : k' = k
      · simp [h1]
      · rw [if_neg h1, if_neg h1, if_neg (by rw [← h]; exact h1)]
    · rename_i h
      simp only [aget, ih]
      by_cases h1 : k' = p.1
      · rw [if_pos h1, if_neg (by rintro rfl; exact h h1), if_pos h1]
      · rw [if_neg h1, if_neg h1]
/-- Block 'b' is a map with these keys and values, as 'ev' writes the values. -/
def MapA {α β : Type} [DecidableEq α] (enc : α → Value) (evl : β → Value) (h : Heap) (b : Nat) (m : List (α × β)) : Prop := MapK enc h b (m.map fun p => (p.1, evl p.2))
section
variable {α β : Type} [DecidableEq α] {enc : α → Value} {evl : β → Value}
theorem mget_map (m : List (α × β)) (k : α) : mget (m.map fun p => (p.1, evl p.2)) k = (aget m k).map evl := by
  induction m with
  | nil => rfl
  | cons p r ih =>
    simp only [List.map_cons, mget, aget, ih]
    split <;> rfl
theorem mset_map (m : List (α × β)) (k : α) (v : β) : mset (m.map fun p => (p.1, evl p.2)) k (evl v) = (aset m k v).map fun p => (p.1, evl p.2) := by
  induction m with
  | nil => rfl
  | cons p r ih =>
    simp only [List.map_cons, mset, aset]
    split
    · rfl
    · rw [ih]; rfl
theorem MapA.lt {h : Heap} {b : Nat} {m : List (α × β)} (x : MapA enc evl h b m) : b < h.size := MapK.lt x
theorem MapA.only {bs : List Nat} {h h' : Heap} {b : Nat} {m : List (α × β)} (x : MapA enc evl h b m) (y : Only bs h h') (hn : b ∉ bs) : MapA enc evl h' b m := MapK.only x y hn
theorem MapA.ext {h h' : Heap} {b : Nat} {m : List (α × β)} (x : MapA enc evl h b m) (y : Ext h h') : MapA enc evl h' b m := MapK.ext x y
theorem MapA.congr {h : Heap} {b : Nat} {m m' : List (α × β)} (x : MapA enc evl h b m) (e : m = m') : MapA enc evl h b m' := e ▸ x
section
variable {P : Program} {n : Nat} {e : Env} {h : Heap} {d : Option Tmp} {t : TypeId} {pos : String} {af : Array Edge} {g : Option (Nat × Bool)}
variable {T KT E : TypeId} {x y z : Operand} {b : Nat} {D : TypeDesc} {k : α} {v u : β} {m : List (α × β)}
theorem M_makeMapA : Mks P n e h ⟨d, .makeMap T none, t, pos, af, g⟩ (fun u h' => u = .map (some h.size) ∧ Ext h h' ∧ MapA enc evl h' h.size []) := M_makeMap enc
theorem Y_lookA (K : Key D enc) (hT : P.underlying T = some (.map KT E)) (hK : P.underlying KT = some D) (hz : (P.info? E).bind (·.zero) = some (evl u)) (hx : ev e x = some (.map (some b))) (hy : ev e y = some (enc k)) (hb : MapA enc evl h b m) :
    Yld P n e h ⟨d, .lookup T x y false, t, pos, af, g⟩ (evl ((aget m k).getD u)) := by
  have := Y_look (P := P) (n := n) (d := d) (t := t) (pos := pos) (af := af) (g := g) (k := k) K hT hK hz hx hy hb
  rw [mget_map] at this
  cases hq : aget m k with
  | none => rw [hq] at this; exact this
  | some q => rw [hq] at this; exact this
theorem Y_look2A (K : Key D enc) (hT : P.underlying T = some (.map KT E)) (hK : P.underlying KT = some D) (hz : (P.info? E).bind (·.zero) = some (evl u)) (hx : ev e x = some (.map (some b))) (hy : ev e y = some (enc k)) (hb : MapA enc evl h b m) :
    Yld P n e h ⟨d, .lookup T x y true, t, pos, af, g⟩ (.tuple #[evl ((aget m k).getD u), .bool (aget m k).isSome]) := by
  have := Y_look2 (P := P) (n := n) (d := d) (t := t) (pos := pos) (af := af) (g := g) (k := k) K hT hK hz hx hy hb
  rw [mget_map] at this
  cases hq : aget m k with
  | none => rw [hq] at this; exact this
  | some q => rw [hq] at this; exact this
theorem D_updA (K : Key D enc) (hT : P.underlying T = some (.map KT E)) (hK : P.underlying KT = some D) (hx : ev e x = some (.map (some b))) (hy : ev e y = some (enc k)) (hz : ev e z = some (evl v)) (hb : MapA enc evl h b m) :
    Dos P n e h ⟨d, .mapUpdate T x y z, t, pos, af, g⟩ (fun h' => Only [b] h h' ∧ h'.size = h.size ∧ MapA enc evl h' b (aset m k v)) := by
  have := D_update (P := P) (n := n) (d := d) (t := t) (pos := pos) (af := af) (g := g) (k := k) K hT hK hx hy hz hb
  rw [mset_map] at this; exact this
end
end
section
variable {P : Program} {n : Nat} {e : Env} {h : Heap} {d : Option Tmp} {t : TypeId} {pos : String} {af : Array Edge} {g : Option (Nat × Bool)}
variable {T KT E : TypeId} {x y z : Operand} {b : Nat} {k v : Int} {m : List (Int × Int)}
end
abbrev MapIS := MapA (fun z : Int => .int .i64 z) (fun l : List UInt8 => str l)
end Go.Xp

/- Rows of structs beside a map: what lasts when the map is written; an append with a proof of its own. -/
set_option linter.unusedSimpArgs false
set_option linter.unusedVariables false
set_option linter.unusedSectionVars false
namespace Go.Xp

instance : Sch2 memS where
  only2 {bs h h' x} o y hb := Row.only2 (show Bytes h x.dv x.data from o) y (fun b e => hb x.dv (by simp [memS]) b e)
theorem Row.noMap {α : Type} [DecidableEq α] {h : Heap} {z : Nat} {v : Value} {n : Nat} {cs : List Value} (x : Row h z v n cs) (hz : 0 < z) {enc : α → Value} {M : Nat} {m : List (α × Value)} (hm : MapK enc h M m) : ∀ b, blk2 v = some b → b ∉ [M] := fun b hb hM => by
  obtain ⟨⟨a, cap, rfl, h1, h2, h3⟩, h4⟩ := x
  cases a with
  | none => cases hb
  | some ad =>
    by_cases hn : n = 0
    · simp [blk2, hn] at hb
    · simp [blk2, hn] at hb
      rw [List.mem_singleton] at hM
      subst hb
      subst hM
      have hl : 0 < cs.length := by rw [h4]; exact Nat.mul_pos (by omega) hz
      have hc : ∃ u, cs[0]? = some u := ⟨cs[0]'hl, List.getElem?_eq_getElem hl⟩
      obtain ⟨u, hu⟩ := hc
      have := (h3 ad rfl).2 0 u hu
      have hg := MapK.get hm
      simp [cellAt, hg] at this
section
variable {α : Type} [DecidableEq α] {enc : α → Value} {H h : Heap} {M : Nat} {m : List (α × Value)}
/-- Rows of nodes that stood beside the map. -/
theorem rowsN_onlyM {v : Value} {L : List Nod} (x : Rows nodS H v L) (y : Only [M] H h) (hm : MapK enc H M m) : Rows nodS h v L :=
  ⟨Row.only2 x.1 y (Row.noMap x.1 (by decide) hm), fun a ha => Row.only2 (show Bytes H a.dv a.data from x.2 a ha) y (Row.noMap (show Bytes H a.dv a.data from x.2 a ha) (by decide) hm)⟩
theorem okM_onlyM {x : Mem} (o : memS.ok H x) (y : Only [M] H h) (hm : MapK enc H M m) : memS.ok h x :=
  Row.only2 (show Bytes H x.dv x.data from o) y (Row.noMap (show Bytes H x.dv x.data from o) (by decide) hm)
theorem rowsO_onlyM {base : Nat} {v : Value} {l : List Mem} (x : RowsO memS H base v l) (y : Only [M] H h) (hlt : M < base) (hm : MapK enc H M m) : RowsO memS h base v l :=
  ⟨Own.only x.1 y (fun b hb hM => by
    have := (Own.lt x.1 b hb).1
    rw [List.mem_singleton.1 hM] at this; omega), fun a ha => okM_onlyM (x.2 a ha) y hm⟩
theorem only_app {h' : Heap} {bs : List Nat} (x : Only [M] H h) (y : Only bs h h') (hge : ∀ b ∈ bs, H.size ≤ b) : Only [M] H h' := Only.trans x y (fun b hb => .inr (hge b hb))
end
section
variable {P : Program} {n : Nat} {e : Env} {h : Heap} {d : Option Tmp} {t : TypeId} {pos : String} {af : Array Edge} {g : Option (Nat × Bool)}
variable {T E : TypeId} {x y : Operand} {v u : Value} {β : Type} {S : Sch β} {l l2 : List β} {z base : Nat}
/-- An append, the data of all elements shown by hand. -/
theorem M_apprG {bytes : Nat} {z0 : Value} (hT : P.underlying T = some (.slice E)) (hE : elemRow P E z bytes z0) (hz : z = S.z) (hzz : z0.cells.size = z) (hbp : 0 < bytes) (hs : ev e x = some v) (hx : ev e y = some u) (hown : RowsO S h base v l) (hr : Rows S h u l2)
    (hbase : base ≤ h.size) (hb : (l.length + l2.length) * bytes ≤ 140737488355328) (hok : ∀ h', Only (blockOf v).toList h h' → (∀ b ∈ (blockOf v).toList, base ≤ b) → ∀ x ∈ l ++ l2, S.ok h' x) :
    Mks P n e h ⟨d, .call { callee := .builtin .append, args := #[x, y], argTypes := #[T, T] }, t, pos, af, g⟩ (fun r h' => AppR S h h' base v r (l ++ l2) ∧ (blockOf r = blockOf v ∨ blockOf r = some h.size)) := fun w a hh he => by
  subst hz
  have h1 : ∀ u ∈ l2.flatMap S.cells, u.oneCell' = true := fun u hu => by
    obtain ⟨x, hx0, hx⟩ := List.mem_flatMap.1 hu
    exact S.one (hr.2 x hx0) u hx
  obtain ⟨r, w', k1, k2, k3⟩ := M_append (P := P) (n := n) (d := d) (t := t) (pos := pos) (af := af) (g := g) hT hE hzz hbp hs hx hown.1 hr.1 h1 hbase hb w a hh he
  have hge : ∀ b ∈ (blockOf v).toList, base ≤ b := fun b hb => (Own.lt hown.1 b (by simpa using hb)).1
  refine ⟨r, w', k1, k2, ⟨⟨?_, hok _ k3.only hge⟩, k3.only, hge⟩, k3.lies⟩
  have := k3.own
  rw [List.flatMap_append, List.length_append]; exact this
end
end Go.Xp

/- Bytes whose block is told apart from others by the type of its first cell. -/
set_option linter.unusedSimpArgs false
set_option linter.unusedVariables false
set_option linter.unusedSectionVars false
namespace Go.Xp

theorem slice_formO {h : Heap} {v : Value} {l : List UInt8} (b : Bytes h v l) : ∃ x n c, v = .slice x n c := by
  obtain ⟨⟨a0, cap, rfl, _⟩, _⟩ := b; exact ⟨_, _, _, rfl⟩
def u8no : Value → Bool
  | .int .u8 _ => false
  | _ => true
theorem row_cells {β : Type} {S : Sch β} {h : Heap} {v : Value} {L : List β} (x : Rows S h v L) : v.cells.toList = [v] := by
  obtain ⟨⟨⟨a, cap, rfl, _⟩, _⟩, _⟩ := x; rfl
theorem row_cell1 {β : Type} {S : Sch β} {h : Heap} {v : Value} {L : List β} (x : Rows S h v L) : v.oneCell' = true := by
  obtain ⟨⟨⟨a, cap, rfl, _⟩, _⟩, _⟩ := x; rfl
/-- Bytes, the first cell of their block being a byte. -/
def Off (h : Heap) (v : Value) (l : List UInt8) : Prop := Bytes h v l ∧ ∀ d, blk2 v = some d → ∃ c, cellAt h d 0 = some (.int .u8 c)
section
variable {h h' : Heap} {v : Value} {l : List UInt8} {bs : List Nat} {B base : Nat}
theorem Off.of (o : OwnB h base v l) : Off h v l := by
  refine ⟨o.bytes, fun d hd => ?_⟩
  obtain ⟨o1, ⟨rfl, o2⟩ | ⟨g, cap, extra, rfl, o3, o4, o5, o6⟩⟩ := o
  · cases hd
  · cases l with
    | nil => simp [blk2] at hd
    | cons c l =>
      simp [blk2] at hd
      subst hd
      exact ⟨(c.toNat : Int), by rw [o4.cell]; rfl⟩
theorem Off.nil (h : Heap) : Off h (.slice none 0 0) [] := ⟨Bytes.nil _, fun d hd => by cases hd⟩
theorem cell_only {d o : Nat} (y : Only bs h h') (hd : d ∉ bs) {u : Value} (hc : cellAt h d o = some u) : cellAt h' d o = some u := by rw [y.cellAt (cellAt_lt hc) hd]; exact hc
theorem Off.only (x : Off h v l) (y : Only bs h h') (hb : ∀ d c, cellAt h d 0 = some (.int .u8 c) → d ∉ bs) : Off h' v l :=
  ⟨Row.only2 (show Bytes h v l from x.1) y (fun d hd => by obtain ⟨c, hc⟩ := x.2 d hd; exact hb d c hc), fun d hd => by
    obtain ⟨c, hc⟩ := x.2 d hd
    exact ⟨c, cell_only y (hb d c hc) hc⟩⟩
theorem Off.ext (x : Off h v l) (y : Ext h h') : Off h' v l := Off.only x (bs := []) y (fun _ _ _ q => absurd q (List.not_mem_nil))
theorem Off.box (x : Off h v l) {u : Value} {cs : List Value} (hb : Blk h B (u :: cs)) (hu : u8no u = true) (y : Only [B] h h') : Off h' v l := x.only y (fun d c hc hm => by
  rw [List.mem_singleton.1 hm, hb.cell] at hc
  simp at hc
  rw [hc] at hu; cases hu)
theorem Off.map {α : Type} [DecidableEq α] {enc : α → Value} {m : List (α × Value)} (x : Off h v l) (hm : MapK enc h B m) (y : Only [B] h h') : Off h' v l := x.only y (fun d c hc q => by
  rw [List.mem_singleton.1 q] at hc
  unfold cellAt at hc
  rw [MapK.get hm] at hc; cases hc)
theorem Off.row {w : Value} {L : List Nod} (x : Off h v l) (o : RowsO nodS h base w L) (hw : L = [] → w = .slice none 0 0) (y : Only (blockOf w).toList h h') : Off h' v l := x.only y (fun d c hc q => by
  obtain ⟨⟨o1, ⟨rfl, o2⟩ | ⟨g, cap, extra, rfl, o3, o4, o5, o6⟩⟩, -⟩ := o
  · cases q
  · cases L with
    | nil => have := hw rfl; cases this
    | cons a L =>
      simp [blockOf] at q
      subst q
      rw [o4.cell] at hc
      simp [nodS] at hc)
theorem off_app {h9 : Heap} {w : Value} {L : List Nod} {y : Nod} (h1 : ∀ x ∈ L, Off h x.dv x.data) (h2 : Off h y.dv y.data) (o : RowsO nodS h base w L) (hw : L = [] → w = .slice none 0 0) (z : Only (blockOf w).toList h h9) : ∀ a ∈ L ++ [y], Off h9 a.dv a.data := fun a q =>
  (List.mem_append.1 q).elim (fun q => (h1 a q).row o hw z) (fun q => by rw [List.mem_singleton.1 q]; exact h2.row o hw z)
theorem map_row {α : Type} [DecidableEq α] {enc : α → Value} {m : List (α × Value)} {L : List Nod} (x : RowsO nodS h base v L) (hm : MapK enc h B m) : B ∉ (blockOf v).toList := fun hM => by
  obtain ⟨o1, ⟨rfl, o2⟩ | ⟨g, cap, extra, rfl, o3, ⟨T, lo, hi, q, _⟩, o5, o6⟩⟩ := x.1
  · cases hM
  · simp [blockOf] at hM
    subst hM
    have hg := MapK.get hm
    rw [q] at hg; cases hg
theorem box_row {x y : Value} {L : List Nod} (o : RowsO nodS h base v L) (hw : L = [] → v = .slice none 0 0) (hb : Blk h B [v, x, y]) : B ∉ (blockOf v).toList := fun hM => by
  obtain ⟨⟨o1, ⟨rfl, o2⟩ | ⟨g, cap, extra, rfl, o3, o4, o5, o6⟩⟩, -⟩ := o
  · cases hM
  · simp [blockOf] at hM
    subst hM
    cases L with
    | nil => have := hw rfl; cases this
    | cons a L =>
      have := Blk.inj hb o4
      simp [nodS] at this
theorem rowsO_map {α : Type} [DecidableEq α] {enc : α → Value} {m : List (α × Value)} {L : List Nod} (x : RowsO nodS h base v L) (y : Only [B] h h') (hm : MapK enc h B m) : RowsO nodS h' base v L :=
  ⟨Own.only x.1 y (fun b hb hM => by
    obtain ⟨o1, ⟨rfl, o2⟩ | ⟨g, cap, extra, rfl, o3, ⟨T, lo, hi, q, _⟩, o5, o6⟩⟩ := x.1
    · cases hb
    · simp [blockOf] at hb
      subst hb
      rw [← List.mem_singleton.1 hM] at hm
      have hg := MapK.get hm
      rw [q] at hg; cases hg), fun a ha => Row.only2 (show Bytes h a.dv a.data from x.2 a ha) y (Row.noMap (show Bytes h a.dv a.data from x.2 a ha) (by decide) hm)⟩
theorem rowsO_box {u : Value} {cs : List Value} {L : List Nod} (x : RowsO nodS h base v L) (hL : L ≠ []) (hof : ∀ a ∈ L, Off h a.dv a.data) (hb : Blk h B (u :: cs)) (hu : ∀ k c, u ≠ .int k c) (y : Only [B] h h') : RowsO nodS h' base v L :=
  ⟨Own.only x.1 y (fun b hb2 hM => by
    obtain ⟨o1, ⟨rfl, o2⟩ | ⟨g, cap, extra, rfl, o3, o4, o5, o6⟩⟩ := x.1
    · cases hb2
    · simp [blockOf] at hb2
      subst hb2
      rw [List.mem_singleton.1 hM] at o4
      cases L with
      | nil => exact hL rfl
      | cons a L =>
        have := Blk.inj hb o4
        simp [nodS] at this
        exact hu _ _ this.1), fun a ha => ((hof a ha).box hb (by cases u <;> first | rfl | (exact absurd rfl (hu _ _))) y).1⟩
end
end Go.Xp
