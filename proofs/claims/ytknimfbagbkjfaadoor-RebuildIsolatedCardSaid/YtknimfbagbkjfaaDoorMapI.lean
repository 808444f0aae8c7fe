/- Maps to true: sets of texts. -/
import Derived.Test.YtknimfbagbkjfaaDoorRune
import Derived.Test.YtknimfbagbkjfaaDoorRws
set_option linter.unusedSimpArgs false
set_option linter.unusedVariables false
set_option linter.unusedSectionVars false
namespace Go.Xp

/-- The key joins the keys, if it is new. -/
def kins (ks : List (List UInt8)) (k : List UInt8) : List (List UInt8) := if k ∈ ks then ks else ks ++ [k]
theorem mem_kins {ks : List (List UInt8)} {k q : List UInt8} : q ∈ kins ks k ↔ q ∈ ks ∨ q = k := by
  unfold kins
  split
  · rename_i h
    exact ⟨.inl, fun e => e.elim id (fun e => e ▸ h)⟩
  · simp
/-- A map whose keys are these, and whose values are true. -/
def SetK (h : Heap) (b : Nat) (ks : List (List UInt8)) : Prop := MapK (fun l : List UInt8 => str l) h b (ks.map fun k => (k, Value.bool true))
theorem SetK.lt {h : Heap} {b : Nat} {ks : List (List UInt8)} (x : SetK h b ks) : b < h.size := MapK.lt x
theorem SetK.only {bs : List Nat} {h h' : Heap} {b : Nat} {ks : List (List UInt8)} (x : SetK h b ks) (y : Only bs h h') (hn : b ∉ bs) : SetK h' b ks := MapK.only x y hn
theorem SetK.ext {h h' : Heap} {b : Nat} {ks : List (List UInt8)} (x : SetK h b ks) (y : Ext h h') : SetK h' b ks := MapK.ext x y
theorem SetK.congr {h : Heap} {b : Nat} {ks ks' : List (List UInt8)} (x : SetK h b ks) (e : ks = ks') : SetK h b ks' := e ▸ x
theorem mget_set (ks : List (List UInt8)) (k : List UInt8) : mget (ks.map fun k => (k, Value.bool true)) k = if k ∈ ks then some (.bool true) else none := by
  induction ks with
  | nil => simp [mget]
  | cons a r ih =>
    simp only [List.map_cons, mget, ih, List.mem_cons]
    by_cases h : k = a
    · rw [if_pos h, if_pos (.inl h)]
    · rw [if_neg h]
      by_cases h2 : k ∈ r
      · rw [if_pos h2, if_pos (.inr h2)]
      · rw [if_neg h2, if_neg (fun e => e.elim h h2)]
theorem mset_old {α : Type} [DecidableEq α] : ∀ (m : List (α × Value)) (k : α) (v : Value), mget m k = some v → mset m k v = m
  | [], _, _, h => by cases h
  | p :: r, k, v, h => by
    simp only [mget] at h
    simp only [mset]
    split at h
    · rename_i hk
      rw [if_pos hk]
      obtain ⟨a, b⟩ := p
      simp only at hk h
      rw [hk, Option.some.inj h]
    · rename_i hk
      rw [if_neg hk, mset_old r k v h]
theorem mset_set (ks : List (List UInt8)) (k : List UInt8) : mset (ks.map fun k => (k, Value.bool true)) k (.bool true) = (kins ks k).map fun k => (k, Value.bool true) := by
  unfold kins
  by_cases h : k ∈ ks
  · rw [if_pos h, mset_old _ _ _ (by rw [mget_set, if_pos h])]
  · rw [if_neg h, mset_new _ _ _ (by rw [mget_set, if_neg h])]; simp
section
variable {P : Program} {n : Nat} {e : Env} {h : Heap} {d : Option Tmp} {t : TypeId} {pos : String} {af : Array Edge} {g : Option (Nat × Bool)}
variable {T KT E : TypeId} {x y z : Operand} {b : Nat} {k : List UInt8} {ks : List (List UInt8)}
theorem Y_lookset (hT : P.underlying T = some (.map KT E)) (hK : P.underlying KT = some .string) (hz : (P.info? E).bind (·.zero) = some (.bool false)) (hx : ev e x = some (.map (some b))) (hy : ev e y = some (str k)) (hb : SetK h b ks) :
    Yld P n e h ⟨d, .lookup T x y false, t, pos, af, g⟩ (.bool (decide (k ∈ ks))) := by
  have := Y_look (P := P) (n := n) (d := d) (t := t) (pos := pos) (af := af) (g := g) keyS hT hK hz hx hy hb
  rw [mget_set] at this
  by_cases h2 : k ∈ ks
  · rw [if_pos h2] at this; rw [decide_eq_true h2]; exact this
  · rw [if_neg h2] at this; rw [decide_eq_false h2]; exact this
theorem D_updset (hT : P.underlying T = some (.map KT E)) (hK : P.underlying KT = some .string) (hx : ev e x = some (.map (some b))) (hy : ev e y = some (str k)) (hz : ev e z = some (.bool true)) (hb : SetK h b ks) :
    Dos P n e h ⟨d, .mapUpdate T x y z, t, pos, af, g⟩ (fun h' => Only [b] h h' ∧ h'.size = h.size ∧ SetK h' b (kins ks k)) := by
  have := D_update (P := P) (n := n) (d := d) (t := t) (pos := pos) (af := af) (g := g) keyS hT hK hx hy hz hb
  rw [mset_set] at this; exact this
end
end Go.Xp

/- Maps from int to int of any content: a list of keys and values. -/
set_option linter.unusedSimpArgs false
set_option linter.unusedVariables false
set_option linter.unusedSectionVars false
namespace Go.Xp

def iget : List (Int × Int) → Int → Int
  | [], _ => 0
  | p :: r, k => if k = p.1 then p.2 else iget r k
def iset : List (Int × Int) → Int → Int → List (Int × Int)
  | [], k, v => [(k, v)]
  | p :: r, k, v => if k = p.1 then (k, v) :: r else p :: iset r k v
theorem iget_iset (m : List (Int × Int)) (k k' v : Int) : iget (iset m k v) k' = if k' = k then v else iget m k' := by
  induction m with
  | nil => simp [iset, iget]
  | cons p r ih =>
    simp only [iset]
    split
    · rename_i h
      simp only [iget]
      by_cases h1 : k' = k
      · simp [h1]
      · rw [if_neg h1, if_neg h1, if_neg (by rw [← h]; exact h1)]
    · rename_i h
      simp only [iget, ih]
      by_cases h1 : k' = p.1
      · rw [if_pos h1, if_neg (by rintro rfl; exact h h1), if_pos h1]
      · rw [if_neg h1, if_neg h1]
theorem iset_len_le (m : List (Int × Int)) (k v : Int) : (iset m k v).length ≤ m.length + 1 := by
  induction m with
  | nil => simp [iset]
  | cons p r ih =>
    simp only [iset]
    split
    · simp
    · simp; omega
def ivs (m : List (Int × Int)) : List (Int × Value) := m.map fun p => (p.1, Value.int .i64 p.2)
theorem mget_ivs (m : List (Int × Int)) (k : Int) : (mget (ivs m) k).getD (.int .i64 0) = .int .i64 (iget m k) := by
  induction m with
  | nil => rfl
  | cons p r ih =>
    simp only [ivs, List.map_cons, mget, iget] at ih ⊢
    split
    · rfl
    · exact ih
theorem mset_ivs (m : List (Int × Int)) (k v : Int) : mset (ivs m) k (.int .i64 v) = ivs (iset m k v) := by
  induction m with
  | nil => rfl
  | cons p r ih =>
    simp only [ivs, List.map_cons, mset, iset] at ih ⊢
    split
    · rfl
    · rw [List.map_cons, ih]
/-- Block 'b' is a map with these keys and values. -/
def MapI (h : Heap) (b : Nat) (m : List (Int × Int)) : Prop := MapK (fun z : Int => .int .i64 z) h b (ivs m)
theorem MapI.lt {h : Heap} {b : Nat} {m : List (Int × Int)} (x : MapI h b m) : b < h.size := MapK.lt x
theorem MapI.only {bs : List Nat} {h h' : Heap} {b : Nat} {m : List (Int × Int)} (x : MapI h b m) (y : Only bs h h') (hn : b ∉ bs) : MapI h' b m := MapK.only x y hn
theorem MapI.ext {h h' : Heap} {b : Nat} {m : List (Int × Int)} (x : MapI h b m) (y : Ext h h') : MapI h' b m := MapK.ext x y
theorem MapI.congr {h : Heap} {b : Nat} {m m' : List (Int × Int)} (x : MapI h b m) (e : m = m') : MapI h b m' := e ▸ x
section
variable {P : Program} {n : Nat} {e : Env} {h : Heap} {d : Option Tmp} {t : TypeId} {pos : String} {af : Array Edge} {g : Option (Nat × Bool)}
variable {T KT E : TypeId} {x y z : Operand} {b : Nat} {k v : Int} {m : List (Int × Int)}
theorem M_makeMapI : Mks P n e h ⟨d, .makeMap T none, t, pos, af, g⟩ (fun u h' => u = .map (some h.size) ∧ Ext h h' ∧ MapI h' h.size []) := M_makeMap (α := Int) (fun z : Int => .int .i64 z)
theorem Y_lookI (hT : P.underlying T = some (.map KT E)) (hK : P.underlying KT = some (.int .i64)) (hz : (P.info? E).bind (·.zero) = some (.int .i64 0)) (hx : ev e x = some (.map (some b))) (hy : ev e y = some (.int .i64 k)) (hb : MapI h b m) :
    Yld P n e h ⟨d, .lookup T x y false, t, pos, af, g⟩ (.int .i64 (iget m k)) := by
  have := Y_look (P := P) (n := n) (d := d) (t := t) (pos := pos) (af := af) (g := g) (k := k) keyI hT hK hz hx hy hb
  rw [mget_ivs] at this; exact this
theorem D_updI (hT : P.underlying T = some (.map KT E)) (hK : P.underlying KT = some (.int .i64)) (hx : ev e x = some (.map (some b))) (hy : ev e y = some (.int .i64 k)) (hz : ev e z = some (.int .i64 v)) (hb : MapI h b m) :
    Dos P n e h ⟨d, .mapUpdate T x y z, t, pos, af, g⟩ (fun h' => Only [b] h h' ∧ h'.size = h.size ∧ MapI h' b (iset m k v)) := by
  have := D_update (P := P) (n := n) (d := d) (t := t) (pos := pos) (af := af) (g := g) (k := k) keyI hT hK hx hy hz hb
  rw [mset_ivs] at this; exact this
theorem Y_lenI (hT : P.underlying T = some (.map KT E)) (hx : ev e x = some (.map (some b))) (hb : MapI h b m) : Yld P n e h ⟨d, .call { callee := .builtin .len, args := #[x], argTypes := #[T] }, t, pos, af, g⟩ (.int .i64 (m.length : Int)) := by
  have := Y_lenmap (P := P) (n := n) (e := e) (d := d) (t := t) (pos := pos) (af := af) (g := g) hT hx hb
  rw [show (ivs m).length = m.length by simp [ivs]] at this; exact this
end
end Go.Xp
