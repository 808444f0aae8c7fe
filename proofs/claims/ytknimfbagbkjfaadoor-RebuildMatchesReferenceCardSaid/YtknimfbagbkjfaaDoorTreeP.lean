/- Maps to true: sets of texts. -/
import Derived.Test.YtknimfbagbkjfaaDoorRune
import Derived.Test.YtknimfbagbkjfaaDoorRws
import Derived.Test.YtknimfbagbkjfaaDoorFitR
import Derived.Test.YtknimfbagbkjfaaDoorLaidN
set_option linter.unusedSimpArgs false
set_option linter.unusedVariables false
set_option linter.unusedSectionVars false
namespace Go.Xp

/-- The key joins the keys, if it is new. -/
def kins (ks : List (List UInt8)) (k : List UInt8) : List (List UInt8) := if k ∈ ks then ks else ks ++ [k]
theorem mem_kins {ks : List (List UInt8)} {k q : List UInt8} : q ∈ kins ks k ↔ q ∈ ks ∨ q = k := by
  unfold kins
  split
  · rename_i h
    exact ⟨.inl, fun e => e.elim id (fun e => e ▸ h)⟩
  · simp
/-- A map whose keys are these, and whose values are true. -/
def SetK (h : Heap) (b : Nat) (ks : List (List UInt8)) : Prop := MapK (fun l : List UInt8 => str l) h b (ks.map fun k => (k, Value.bool true))
theorem SetK.lt {h : Heap} {b : Nat} {ks : List (List UInt8)} (x : SetK h b ks) : b < h.size := MapK.lt x
theorem SetK.only {bs : List Nat} {h h' : Heap} {b : Nat} {ks : List (List UInt8)} (x : SetK h b ks) (y : Only bs h h') (hn : b ∉ bs) : SetK h' b ks := MapK.only x y hn
theorem SetK.ext {h h' : Heap} {b : Nat} {ks : List (List UInt8)} (x : SetK h b ks) (y : Ext h h') : SetK h' b ks := MapK.ext x y
theorem SetK.congr {h : Heap} {b : Nat} {ks ks' : List (List UInt8)} (x : SetK h b ks) (e : ks = ks') : SetK h b ks' := e ▸ x
theorem mget_set (ks : List (List UInt8)) (k : List UInt8) : mget (ks.map fun k => (k, Value.bool true)) k = if k ∈ ks then some (.bool true) else none := by
  induction ks with
  | nil => simp [mget]
  | cons a r ih =>
    simp only [List.map_cons, mget, ih, List.mem_cons]
    by_cases h : k = a
    · rw [if_pos h, if_pos (.inl h)]
    · rw [if_neg h]
      by_cases h2 : k ∈ r
      · rw [if_pos h2, if_pos (.inr h2)]
      · rw [if_neg h2, if_neg (fun e => e.elim h h2)]
theorem mset_old {α : Type} [DecidableEq α] : ∀ (m : List (α × Value)) (k : α) (v : Value), mget m k = some v → mset m k v = m
  | [], _, _, h => by cases h
  | p :: r, k, v, h => by
    simp only [mget] at h
    simp only [mset]
    split at h
    · rename_i hk
      rw [if_pos hk]
      obtain ⟨a, b⟩ := p
      simp only at hk h
      rw [hk, Option.some.inj h]
    · rename_i hk
      rw [if_neg hk, mset_old r k v h]
theorem mset_set (ks : List (List UInt8)) (k : List UInt8) : mset (ks.map fun k => (k, Value.bool true)) k (.bool true) = (kins ks k).map fun k => (k, Value.bool true) := by
  unfold kins
  by_cases h : k ∈ ks
  · rw [if_pos h, mset_old _ _ _ (by rw [mget_set, if_pos h])]
  · rw [if_neg h, mset_new _ _ _ (by rw [mget_set, if_neg h])]; simp
section
variable {P : Program} {n : Nat} {e : Env} {h : Heap} {d : Option Tmp} {t : TypeId} {pos : String} {af : Array Edge} {g : Option (Nat × Bool)}
variable {T KT E : TypeId} {x y z : Operand} {b : Nat} {k : List UInt8} {ks : List (List UInt8)}
theorem Y_lookset (hT : P.underlying T = some (.map KT E)) (hK : P.underlying KT = some .string) (hz : (P.info? E).bind (·.zero) = some (.bool false)) (hx : ev e x = some (.map (some b))) (hy : ev e y = some (str k)) (hb : SetK h b ks) :
    Yld P n e h ⟨d, .lookup T x y false, t, pos, af, g⟩ (.bool (decide (k ∈ ks))) := by
  have := Y_look (P := P) (n := n) (d := d) (t := t) (pos := pos) (af := af) (g := g) keyS hT hK hz hx hy hb
  rw [mget_set] at this
  by_cases h2 : k ∈ ks
  · rw [if_pos h2] at this; rw [decide_eq_true h2]; exact this
  · rw [if_neg h2] at this; rw [decide_eq_false h2]; exact this
theorem D_updset (hT : P.underlying T = some (.map KT E)) (hK : P.underlying KT = some .string) (hx : ev e x = some (.map (some b))) (hy : ev e y = some (str k)) (hz : ev e z = some (.bool true)) (hb : SetK h b ks) :
    Dos P n e h ⟨d, .mapUpdate T x y z, t, pos, af, g⟩ (fun h' => Only [b] h h' ∧ h'.size = h.size ∧ SetK h' b (kins ks k)) := by
  have := D_update (P := P) (n := n) (d := d) (t := t) (pos := pos) (af := af) (g := g) keyS hT hK hx hy hz hb
  rw [mset_set] at this; exact this
end
end Go.Xp

/- Layer 13 (tree): what Check answers. -/
set_option linter.unusedSimpArgs false
set_option linter.unusedVariables false
set_option linter.unusedSectionVars false
namespace Go.Xp
open Go.Proofs

def nsize (x : Nod) : Int := if x.kind = 1 then (x.data.length : Int) else 0
def nfc (x : Nod) : Int := fcheck x.kind x.path x.mode x.target (nsize x)
/-- What is wrong with a node by itself. -/
def tone (x : Nod) : Int :=
  if x.kind < 0 ∨ 2 < x.kind then 8 else if ¬ nfc x = 0 then nfc x else if ¬ x.kind = 1 ∧ 0 < x.data.length then 2 else if x.cls < 0 ∨ (¬ x.kind = 1 ∧ ¬ x.cls = 0) then 15 else 0
def fnd (l : List Nod) (q : List UInt8) (n : Nat) : Bool := decide (q = []) || (List.range n).any fun k => decide ((at_nod l k).kind = 0 ∧ (at_nod l k).path = q)
/-- The index of the first node of a class. -/
def nfirst : List Nod → Int → Nat
  | [], _ => 0
  | x :: r, c => if x.cls = c then 0 else nfirst r c + 1
theorem fnd_iff {l : List Nod} {q : List UInt8} {n : Nat} : fnd l q n = true ↔ (q = [] ∨ ∃ k, k < n ∧ (at_nod l k).kind = 0 ∧ (at_nod l k).path = q) := by
  unfold fnd; rw [Bool.or_eq_true, decide_eq_true_eq, List.any_eq_true]
  constructor
  · rintro (h | ⟨k, hk, h⟩)
    · exact .inl h
    · exact .inr ⟨k, List.mem_range.1 hk, of_decide_eq_true h⟩
  · rintro (h | ⟨k, hk, h⟩)
    · exact .inl h
    · exact .inr ⟨k, List.mem_range.2 hk, decide_eq_true h⟩
theorem nod_cons_succ (x : Nod) (r : List Nod) (k : Nat) : at_nod (x :: r) (k + 1) = at_nod r k := by simp [at_nod]
theorem nfirst_le : ∀ (l : List Nod) (c : Int), nfirst l c ≤ l.length
  | [], _ => Nat.le_refl _
  | x :: r, c => by
    have := nfirst_le r c
    unfold nfirst; split
    · omega
    · simp only [List.length_cons]; omega
theorem nfirst_ne : ∀ {l : List Nod} {c : Int} {k : Nat}, k < nfirst l c → ¬ (at_nod l k).cls = c
  | [], _, _, h => by cases h
  | x :: r, c, k, h => by
    unfold nfirst at h
    split at h
    · cases h
    · rename_i hx
      cases k with
      | zero => exact hx
      | succ k => rw [nod_cons_succ]; exact nfirst_ne (by omega)
theorem nfirst_cls : ∀ {l : List Nod} {c : Int}, nfirst l c < l.length → (at_nod l (nfirst l c)).cls = c
  | [], _, h => by cases h
  | x :: r, c, h => by
    unfold nfirst at h ⊢
    split
    · rename_i hx; exact hx
    · rename_i hx
      rw [if_neg hx] at h
      rw [nod_cons_succ]; exact nfirst_cls (by simpa using h)
theorem nfirst_eq {l : List Nod} {c : Int} {k : Nat} (hk : (at_nod l k).cls = c) (hn : ∀ j, j < k → ¬ (at_nod l j).cls = c) (hl : k < l.length) : nfirst l c = k := by
  have h1 := nfirst_le l c
  rcases Nat.lt_trichotomy (nfirst l c) k with h | h | h
  · exact absurd (nfirst_cls (by omega)) (hn _ h)
  · exact h
  · exact absurd hk (nfirst_ne h)
theorem nfirst_of {l : List Nod} {i : Nat} (hi : i < l.length) : nfirst l (at_nod l i).cls ≤ i := by
  apply Decidable.byContradiction; intro h
  exact nfirst_ne (l := l) (c := (at_nod l i).cls) (k := i) (by omega) rfl

section
variable {l : List Nod} {i : Nat}
end
/-! ### What the maps hold -/
def dirk (l : List Nod) : Nat → List (List UInt8)
  | 0 => [[]]
  | i + 1 => if (at_nod l i).kind = 0 then kins (dirk l i) (at_nod l i).path else dirk l i
theorem mem_dirk {l : List Nod} {q : List UInt8} : ∀ {i : Nat}, q ∈ dirk l i ↔ (q = [] ∨ ∃ k, k < i ∧ (at_nod l k).kind = 0 ∧ (at_nod l k).path = q)
  | 0 => by simp [dirk]
  | i + 1 => by
    have ih := mem_dirk (l := l) (q := q) (i := i)
    unfold dirk
    split
    · rename_i h
      rw [mem_kins, ih]
      constructor
      · rintro ((h1 | ⟨k, h1, h2⟩) | h1)
        · exact .inl h1
        · exact .inr ⟨k, by omega, h2⟩
        · exact .inr ⟨i, by omega, h, h1.symm⟩
      · rintro (h1 | ⟨k, h1, h2, h3⟩)
        · exact .inl (.inl h1)
        · rcases Nat.lt_or_ge k i with h4 | h4
          · exact .inl (.inr ⟨k, h4, h2, h3⟩)
          · obtain rfl : k = i := by omega
            exact .inr h3.symm
    · rename_i h
      rw [ih]
      constructor
      · rintro (h1 | ⟨k, h1, h2⟩)
        · exact .inl h1
        · exact .inr ⟨k, by omega, h2⟩
      · rintro (h1 | ⟨k, h1, h2, h3⟩)
        · exact .inl h1
        · rcases Nat.lt_or_ge k i with h4 | h4
          · exact .inr ⟨k, h4, h2, h3⟩
          · obtain rfl : k = i := by omega
            exact absurd h2 h
end Go.Xp

/- Maps from int to int of any content: a list of keys and values. -/
set_option linter.unusedSimpArgs false
set_option linter.unusedVariables false
set_option linter.unusedSectionVars false
namespace Go.Xp

def iget : List (Int × Int) → Int → Int
  | [], _ => 0
  | p :: r, k => if k = p.1 then p.2 else iget r k
def iset : List (Int × Int) → Int → Int → List (Int × Int)
  | [], k, v => [(k, v)]
  | p :: r, k, v => if k = p.1 then (k, v) :: r else p :: iset r k v
theorem iget_iset (m : List (Int × Int)) (k k' v : Int) : iget (iset m k v) k' = if k' = k then v else iget m k' := by
  induction m with
  | nil => simp [iset, iget]
  | cons p r ih =>
    simp only [iset]
    split
    · rename_i h
      simp only [iget]
      by_cases h1 : k' = k
      · simp [h1]
      · rw [if_neg h1, if_neg h1, if_neg (by rw [← h]; exact h1)]
    · rename_i h
      simp only [iget, ih]
      by_cases h1 : k' = p.1
      · rw [if_pos h1, if_neg (by rintro rfl; exact h h1), if_pos h1]
      · rw [if_neg h1, if_neg h1]
theorem iset_len_le (m : List (Int × Int)) (k v : Int) : (iset m k v).length ≤ m.length + 1 := by
  induction m with
  | nil => simp [iset]
  | cons p r ih =>
    simp only [iset]
    split
    · simp
    · simp; omega
def ivs (m : List (Int × Int)) : List (Int × Value) := m.map fun p => (p.1, Value.int .i64 p.2)
theorem mget_ivs (m : List (Int × Int)) (k : Int) : (mget (ivs m) k).getD (.int .i64 0) = .int .i64 (iget m k) := by
  induction m with
  | nil => rfl
  | cons p r ih =>
    simp only [ivs, List.map_cons, mget, iget] at ih ⊢
    split
    · rfl
    · exact ih
theorem mset_ivs (m : List (Int × Int)) (k v : Int) : mset (ivs m) k (.int .i64 v) = ivs (iset m k v) := by
  induction m with
  | nil => rfl
  | cons p r ih =>
    simp only [ivs, List.map_cons, mset, iset] at ih ⊢
    split
    · rfl
    · rw [List.map_cons, ih]
/-- Block 'b' is a map with these keys and values. -/
def MapI (h : Heap) (b : Nat) (m : List (Int × Int)) : Prop := MapK (fun z : Int => .int .i64 z) h b (ivs m)
theorem MapI.lt {h : Heap} {b : Nat} {m : List (Int × Int)} (x : MapI h b m) : b < h.size := MapK.lt x
theorem MapI.only {bs : List Nat} {h h' : Heap} {b : Nat} {m : List (Int × Int)} (x : MapI h b m) (y : Only bs h h') (hn : b ∉ bs) : MapI h' b m := MapK.only x y hn
theorem MapI.ext {h h' : Heap} {b : Nat} {m : List (Int × Int)} (x : MapI h b m) (y : Ext h h') : MapI h' b m := MapK.ext x y
theorem MapI.congr {h : Heap} {b : Nat} {m m' : List (Int × Int)} (x : MapI h b m) (e : m = m') : MapI h b m' := e ▸ x
section
variable {P : Program} {n : Nat} {e : Env} {h : Heap} {d : Option Tmp} {t : TypeId} {pos : String} {af : Array Edge} {g : Option (Nat × Bool)}
variable {T KT E : TypeId} {x y z : Operand} {b : Nat} {k v : Int} {m : List (Int × Int)}
theorem M_makeMapI : Mks P n e h ⟨d, .makeMap T none, t, pos, af, g⟩ (fun u h' => u = .map (some h.size) ∧ Ext h h' ∧ MapI h' h.size []) := M_makeMap (α := Int) (fun z : Int => .int .i64 z)
theorem Y_lookI (hT : P.underlying T = some (.map KT E)) (hK : P.underlying KT = some (.int .i64)) (hz : (P.info? E).bind (·.zero) = some (.int .i64 0)) (hx : ev e x = some (.map (some b))) (hy : ev e y = some (.int .i64 k)) (hb : MapI h b m) :
    Yld P n e h ⟨d, .lookup T x y false, t, pos, af, g⟩ (.int .i64 (iget m k)) := by
  have := Y_look (P := P) (n := n) (d := d) (t := t) (pos := pos) (af := af) (g := g) (k := k) keyI hT hK hz hx hy hb
  rw [mget_ivs] at this; exact this
theorem D_updI (hT : P.underlying T = some (.map KT E)) (hK : P.underlying KT = some (.int .i64)) (hx : ev e x = some (.map (some b))) (hy : ev e y = some (.int .i64 k)) (hz : ev e z = some (.int .i64 v)) (hb : MapI h b m) :
    Dos P n e h ⟨d, .mapUpdate T x y z, t, pos, af, g⟩ (fun h' => Only [b] h h' ∧ h'.size = h.size ∧ MapI h' b (iset m k v)) := by
  have := D_update (P := P) (n := n) (d := d) (t := t) (pos := pos) (af := af) (g := g) (k := k) keyI hT hK hx hy hz hb
  rw [mset_ivs] at this; exact this
theorem Y_lenI (hT : P.underlying T = some (.map KT E)) (hx : ev e x = some (.map (some b))) (hb : MapI h b m) : Yld P n e h ⟨d, .call { callee := .builtin .len, args := #[x], argTypes := #[T] }, t, pos, af, g⟩ (.int .i64 (m.length : Int)) := by
  have := Y_lenmap (P := P) (n := n) (e := e) (d := d) (t := t) (pos := pos) (af := af) (g := g) hT hx hb
  rw [show (ivs m).length = m.length by simp [ivs]] at this; exact this
end
end Go.Xp

/- Layer 13 (tree): plain laws of valid trees. -/
set_option linter.unusedSimpArgs false
set_option linter.unusedVariables false
set_option linter.unusedSectionVars false
namespace Go.Xp
open Go.Proofs

theorem nod_app {l m : List Nod} {k : Nat} (h : k < l.length) : at_nod (l ++ m) k = at_nod l k := by
  simp [at_nod, List.getD_eq_getElem?_getD, List.getElem?_append_left h]
theorem nod_last (l : List Nod) (x : Nod) : at_nod (l ++ [x]) l.length = x := by
  simp [at_nod, List.getD_eq_getElem?_getD]
theorem nod_eq {l : List Nod} {k : Nat} (h : k < l.length) : at_nod l k = l[k] := by
  rw [at_nod, List.getD_eq_getElem?_getD, List.getElem?_eq_getElem h]; rfl
/-- A valid tree, in plain words. -/
structure TOk (l : List Nod) : Prop where
  one : ∀ k, k < l.length → tone (at_nod l k) = 0
  dup : ∀ j k, j < k → k < l.length → ¬ (at_nod l j).path = (at_nod l k).path
  par : ∀ k, k < l.length → fnd l (pparent (at_nod l k).path) l.length = true
  agr : ∀ j k, j < l.length → k < l.length → (at_nod l j).cls = (at_nod l k).cls → ¬ (at_nod l k).cls = 0 → (at_nod l j).mode = (at_nod l k).mode ∧ (at_nod l j).data = (at_nod l k).data
theorem TOk.first {l : List Nod} (h : TOk l) {i : Nat} (hi : i < l.length) : ¬ (at_nod l i).cls = 0 → (at_nod l (nfirst l (at_nod l i).cls)).mode = (at_nod l i).mode ∧ (at_nod l (nfirst l (at_nod l i).cls)).data = (at_nod l i).data := fun hc => by
  have h1 := nfirst_of hi
  exact h.agr _ _ (by omega) hi (nfirst_cls (by omega)) hc
/-! ### Another node at the end -/
section
variable {l : List Nod} {x : Nod}
end

/-! ### Paths and their parents -/
theorem last_spec : ∀ (l : List UInt8) (c : UInt8), (lastIdx l c = -1 ∧ c ∉ l) ∨ ∃ r : Nat, lastIdx l c = r ∧ r < l.length ∧ l = l.take r ++ [c] ++ l.drop (r + 1) ∧ c ∉ l.drop (r + 1)
  | [], c => .inl ⟨rfl, by simp⟩
  | a :: l, c => by
    rcases last_spec l c with ⟨h1, h2⟩ | ⟨r, h1, h2, h3, h4⟩
    · by_cases h : a = c
      · right
        exact ⟨0, by unfold lastIdx; rw [if_pos h1, if_pos h]; rfl, by simp, by simp [h], by simpa using h2⟩
      · left
        refine ⟨by unfold lastIdx; rw [if_pos h1, if_neg h], fun hm => ?_⟩
        rcases List.mem_cons.1 hm with h5 | h5
        · exact h h5.symm
        · exact h2 h5
    · right
      refine ⟨r + 1, by unfold lastIdx; rw [if_neg (by omega), h1]; rfl, by simpa using h2, ?_, by simpa using h4⟩
      simp only [List.take_succ_cons, List.drop_succ_cons, List.cons_append]
      rw [← h3]
theorem par_cases (q : List UInt8) : (pparent q = [] ∧ (47 : UInt8) ∉ q) ∨ ∃ s, q = pparent q ++ [47] ++ s ∧ (47 : UInt8) ∉ s := by
  rcases last_spec q 47 with ⟨h1, h2⟩ | ⟨r, h1, h2, h3, h4⟩
  · exact .inl ⟨by unfold pparent; rw [h1]; rfl, h2⟩
  · have hp : pparent q = q.take r := by unfold pparent; rw [h1]; rfl
    exact .inr ⟨q.drop (r + 1), by rw [hp]; exact h3, h4⟩
/-! ### A node less -/
section
variable {l : List Nod} {i : Nat}
def skip (i k : Nat) : Nat := if k < i then k else k + 1
end
end Go.Xp

/- Layer 13 (tree): the first node with a path; adding a regular file. -/
set_option linter.unusedSimpArgs false
set_option linter.unusedVariables false
set_option linter.unusedSectionVars false
namespace Go.Xp
open Go.Proofs

/-- The index of the first node with a path. -/
def pfirst : List Nod → List UInt8 → Nat
  | [], _ => 0
  | x :: r, q => if x.path = q then 0 else pfirst r q + 1
theorem pfirst_le : ∀ (l : List Nod) (q : List UInt8), pfirst l q ≤ l.length
  | [], _ => Nat.le_refl _
  | x :: r, q => by
    have := pfirst_le r q
    unfold pfirst; split
    · omega
    · simp only [List.length_cons]; omega
theorem pfirst_ne : ∀ {l : List Nod} {q : List UInt8} {k : Nat}, k < pfirst l q → ¬ (at_nod l k).path = q
  | [], _, _, h => by cases h
  | x :: r, q, k, h => by
    unfold pfirst at h
    split at h
    · cases h
    · rename_i hx
      cases k with
      | zero => exact hx
      | succ k => rw [nod_cons_succ]; exact pfirst_ne (by omega)
theorem pfirst_path : ∀ {l : List Nod} {q : List UInt8}, pfirst l q < l.length → (at_nod l (pfirst l q)).path = q
  | [], _, h => by cases h
  | x :: r, q, h => by
    unfold pfirst at h ⊢
    split
    · rename_i hx; exact hx
    · rename_i hx
      rw [if_neg hx] at h
      rw [nod_cons_succ]; exact pfirst_path (by simpa using h)
theorem pfirst_eq {l : List Nod} {q : List UInt8} {k : Nat} (hk : (at_nod l k).path = q) (hn : ∀ j, j < k → ¬ (at_nod l j).path = q) (hl : k < l.length) : pfirst l q = k := by
  have h1 := pfirst_le l q
  rcases Nat.lt_trichotomy (pfirst l q) k with h | h | h
  · exact absurd (pfirst_path (by omega)) (hn _ h)
  · exact h
  · exact absurd hk (pfirst_ne h)
/-- The first node with a path, or the zero node. -/
def fnode (l : List Nod) (q : List UInt8) : Nod := if pfirst l q < l.length then at_nod l (pfirst l q) else nodS.d
theorem TOk.dir {l : List Nod} (h : TOk l) (q : List UInt8) : fnd l q l.length = true ↔ (q = [] ∨ (pfirst l q < l.length ∧ (fnode l q).kind = 0)) := by
  rw [fnd_iff]
  constructor
  · rintro (e | ⟨k, hk, e1, e2⟩)
    · exact .inl e
    · have h1 : pfirst l q = k := by
        refine pfirst_eq e2 (fun j hj e => h.dup _ _ hj hk (e.trans e2.symm)) hk
      exact .inr ⟨by omega, by unfold fnode; rw [h1, if_pos hk]; exact e1⟩
  · rintro (e | ⟨h1, h2⟩)
    · exact .inl e
    · unfold fnode at h2
      rw [if_pos h1] at h2
      exact .inr ⟨_, h1, h2, pfirst_path h1⟩
end Go.Xp

/- Layer 13 (tree): the program's check, Check and Find. -/
set_option linter.unusedSimpArgs false
set_option linter.unusedVariables false
set_option linter.unusedSectionVars false
namespace Go.Xp
open Go.Proofs

section
variable {l : List Nod} {j : Nat}
end

end Go.Xp
