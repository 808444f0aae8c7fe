/- Rows of bytes that the call itself has made, and what append, a literal and a conversion leave of them; the steps of the heap. -/
import Derived.Test.YtknimfbagbkjfaaGreatDoorHeld
set_option linter.unusedSimpArgs false
set_option linter.unusedVariables false
namespace Go.Xp

theorem Ext.then' {bs : List Nat} {h h' h'' : Heap} {base : Nat} (x : Ext h h') (y : Only bs h' h'') (hb : ∀ b ∈ bs, base ≤ b) (hs : h.size ≤ base) : Ext h h'' := x.then y (fun b hm => Nat.le_trans hs (hb b hm))
theorem Bytes.congr {h : Heap} {v : Value} {l l' : List UInt8} (x : Bytes h v l) (hl : l = l') : Bytes h v l' := hl ▸ x

theorem Buf.congr {h : Heap} {b : Nat} {l l' : List UInt8} (x : Buf h b l) (hl : l = l') : Buf h b l' := hl ▸ x

def OwnB (h : Heap) (base : Nat) (v : Value) (l : List UInt8) : Prop := Own h base 1 v l.length (l.map bv)
section
variable {P : Program} {n : Nat} {e : Env} {h h' : Heap} {d : Option Tmp} {t : TypeId} {pos : String} {af : Array Edge} {g : Option (Nat × Bool)}
variable {T T' E : TypeId} {x y : Operand} {v : Value} {l l2 : List UInt8} {base : Nat}
theorem OwnB.bytes (o : OwnB h base v l) : Bytes h v l := o.row
theorem OwnB.nil (h : Heap) (base : Nat) : OwnB h base (.slice none 0 0) [] := Own.nil h base 1
theorem OwnB.ext (o : OwnB h base v l) (x : Ext h h') : OwnB h' base v l := Own.ext o x
theorem OwnB.congr {l' : List UInt8} (o : OwnB h base v l) (hl : l = l') : OwnB h base v l' := hl ▸ o
theorem OwnB.low {base' : Nat} (o : OwnB h base v l) (hb : base' ≤ base) : OwnB h base' v l := by
  obtain ⟨h1, h2 | ⟨g, cap, extra, rfl, hg, k⟩⟩ := o
  · exact ⟨h1, .inl h2⟩
  · exact ⟨h1, .inr ⟨g, cap, extra, rfl, Nat.le_trans hb hg, k⟩⟩
theorem OwnB.ge (o : OwnB h base v l) : ∀ b ∈ (blockOf v).toList, base ≤ b := fun b hb => (Own.lt o b (by simpa using hb)).1
theorem Buf.ownb {b : Nat} (x : Buf h b l) (hb : base ≤ b) {k : Nat} (hk : k = l.length) : OwnB h base (.slice (some ⟨b, 0, none⟩) k k) l := by
  subst hk; exact x.own hb rfl
/-- What an append leaves. -/
structure AppB (h h' : Heap) (base : Nat) (v u : Value) (l : List UInt8) : Prop where
  own : OwnB h' base u l
  only : Only (blockOf v).toList h h'
  ge : ∀ b ∈ (blockOf v).toList, base ≤ b
theorem M_appb (hT : P.underlying T = some (.slice E)) (hE : elemRow P E 1 1 (.int .u8 0)) {u : Value} (hs : ev e x = some v) (hx : ev e y = some u) (hown : OwnB h base v l) (hr : Bytes h u l2) (hbase : base ≤ h.size) (hb : l.length + l2.length ≤ 140737488355328) :
    Mks P n e h ⟨d, .call { callee := .builtin .append, args := #[x, y], argTypes := #[T, T] }, t, pos, af, g⟩ (fun r h' => AppB h h' base v r (l ++ l2)) := fun w a hh he => by
  obtain ⟨r, w', k1, k2, k3⟩ := M_append (P := P) (n := n) (d := d) (t := t) (pos := pos) (af := af) (g := g) hT hE rfl (by decide) hs hx hown hr (fun u hu => by obtain ⟨b, _, rfl⟩ := List.mem_map.1 hu; rfl) hbase (by omega) w a hh he
  refine ⟨r, w', k1, k2, ?_, k3.only, hown.ge⟩
  have := k3.own
  unfold OwnB
  rw [List.map_append, List.length_append]; exact this
theorem M_appbs (hT : P.underlying T = some (.slice E)) (hT' : P.underlying T' = some .string) (hE : elemRow P E 1 1 (.int .u8 0)) (hs : ev e x = some v) (hx : ev e y = some (str l2)) (hown : OwnB h base v l) (hbase : base ≤ h.size) (hb : l.length + l2.length ≤ 140737488355328) :
    Mks P n e h ⟨d, .call { callee := .builtin .append, args := #[x, y], argTypes := #[T, T'] }, t, pos, af, g⟩ (fun r h' => AppB h h' base v r (l ++ l2)) := fun w a hh he => by
  obtain ⟨r, w', k1, k2, k3⟩ := M_append_str (P := P) (n := n) (d := d) (t := t) (pos := pos) (af := af) (g := g) hT hT' hE hs hx hown hbase hb w a hh he
  refine ⟨r, w', k1, k2, ?_, k3.only, hown.ge⟩
  have := k3.own
  unfold OwnB
  rw [List.map_append, List.length_append]; exact this
/-- []byte{..}. -/
theorem bv_of {c : Int} (h : 0 ≤ c ∧ c ≤ 255) : Value.int .u8 c = bv c.toNat.toUInt8 := by
  have : c.toNat < 256 := by omega
  show Value.int .u8 c = Value.int .u8 ((c.toNat.toUInt8).toNat : Int)
  rw [show (c.toNat.toUInt8).toNat = c.toNat % 256 from rfl, Nat.mod_eq_of_lt this, Int.toNat_of_nonneg h.1]
theorem M_litb {len : Nat} {ps : List (Nat × Operand)} {pv : List (Nat × Value)} {cells : List Value} (hps : ∀ a, EOk n e a → ps.map (fun (i, x) => (i, a.eval x)) = pv) (hl : l.length = len) (hc : cells = l.map bv)
    (hf : ∀ w, (Instr.buildSlice T len pv.toArray).run P w = .ok (.slice (some ⟨w.heap.size, 0, none⟩) len len) { w with heap := w.heap.push (.cells cells.toArray E) }) :
    Mks P n e h ⟨d, .buildSlice T len ps.toArray, t, pos, af, g⟩ (fun u h' => OwnB h' h.size u l ∧ Ext h h') := fun w a hh he => by
  subst hc
  obtain ⟨r, w', k1, k2, rfl, k4⟩ := M_buildSlice (P := P) (n := n) (d := d) (t := t) (pos := pos) (af := af) (g := g) (E := E) hps hf w a hh he
  refine ⟨_, w', k1, k2, ?_, k4.ext⟩
  exact (show Buf _ _ l from k4.blk).ownb (Nat.le_refl _) hl.symm
end
end Go.Xp
