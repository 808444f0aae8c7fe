/- Maps that the walk makes or holds: a list of keys and values, in the order of their making. -/
import Derived.Test.YtdmhigknppkniaaGreatDoorArr
import Derived.MapKept
set_option linter.unusedSimpArgs false
set_option linter.unusedVariables false
set_option linter.unusedSectionVars false
namespace Go.Xp
open MapKept

section
variable {α : Type} [DecidableEq α]
def ents (enc : α → Value) : List (α × Value) → Nat → List MapEntry
  | [], _ => []
  | p :: r, i => ⟨enc p.1, p.2, i⟩ :: ents enc r (i + 1)
def mget : List (α × Value) → α → Option Value
  | [], _ => none
  | p :: r, k => if k = p.1 then some p.2 else mget r k
def midx : List (α × Value) → α → Nat
  | [], _ => 0
  | p :: r, k => if k = p.1 then 0 else midx r k + 1
def mset : List (α × Value) → α → Value → List (α × Value)
  | [], k, v => [(k, v)]
  | p :: r, k, v => if k = p.1 then (k, v) :: r else p :: mset r k v
theorem mget_mset (m : List (α × Value)) (k k' : α) (v : Value) : mget (mset m k v) k' = if k' = k then some v else mget m k' := by
  induction m with
  | nil => simp [mset, mget]
  | cons p r ih =>
    simp only [mset]
    split
    · rename_i h
      simp only [mget]
      by_cases h1 : k' = k
      · simp [h1]
      · rw [if_neg h1, if_neg h1, if_neg (by rw [← h]; exact h1)]
    · rename_i h
      simp only [mget, ih]
      by_cases h1 : k' = p.1
      · rw [if_pos h1, if_neg (by rintro rfl; exact h h1), if_pos h1]
      · rw [if_neg h1, if_neg h1]
theorem ents_append (enc : α → Value) : ∀ (m : List (α × Value)) (i : Nat) (k : α) (v : Value), ents enc (m ++ [(k, v)]) i = ents enc m i ++ [⟨enc k, v, i + m.length⟩]
  | [], i, k, v => by simp [ents]
  | p :: r, i, k, v => by simp [ents, ents_append enc r, Nat.add_assoc, Nat.add_comm 1]
theorem mset_new : ∀ (m : List (α × Value)) (k : α) (v : Value), mget m k = none → mset m k v = m ++ [(k, v)]
  | [], _, _, _ => rfl
  | p :: r, k, v, h => by
    simp only [mget] at h
    split at h
    · cases h
    · rename_i hk
      simp only [mset, if_neg hk, List.cons_append, mset_new r k v h]
theorem mset_length_old : ∀ (m : List (α × Value)) (k : α) (v : Value), mget m k ≠ none → (mset m k v).length = m.length
  | [], _, _, h => absurd rfl h
  | p :: r, k, v, h => by
    simp only [mget] at h
    simp only [mset]
    split
    · rfl
    · rename_i hk
      rw [if_neg hk] at h
      simp [mset_length_old r k v h]
theorem ents_mset (enc : α → Value) : ∀ (m : List (α × Value)) (i : Nat) (k : α) (v : Value), mget m k ≠ none → ents enc (mset m k v) i = (ents enc m i).modify (midx m k) (fun e => { e with key := enc k, val := v }) ∧ midx m k < m.length ∧ ((ents enc m i)[midx m k]?).map (·.key) = some (enc k) ∧ ((ents enc m i)[midx m k]?).map (·.val) = mget m k ∧ ((ents enc m i)[midx m k]?).map (·.born) = some (i + midx m k)
  | [], _, _, _, h => absurd rfl h
  | p :: r, i, k, v, h => by
    simp only [mget] at h
    simp only [mset, midx, mget]
    split
    · rename_i hk
      subst hk
      simp [ents]
    · rename_i hk
      rw [if_neg hk] at h
      obtain ⟨h1, h2, h3, h4, h5⟩ := ents_mset enc r (i + 1) k v h
      refine ⟨by simp [ents, h1, List.modify_succ_cons], by simp; omega, ?_, ?_, ?_⟩
      · simpa [ents] using h3
      · simpa [ents] using h4
      · simp only [ents, List.getElem?_cons_succ, h5]; congr 1; omega

structure Key (D : TypeDesc) (enc : α → Value) : Prop where
  is : ∀ a, IsKey D (enc a)
  same : ∀ a b, Instr.sameNow D (enc a) (enc b) = some (decide (a = b))
theorem findNow_ents {D : TypeDesc} {enc : α → Value} (K : Key D enc) (k : α) : ∀ (m : List (α × Value)) (i j : Nat), Instr.findNow D (enc k) (ents enc m i) j = some ((mget m k).map fun v => (j + midx m k, v))
  | [], _, _ => rfl
  | p :: r, i, j => by
    simp only [ents, Instr.findNow, K.same]
    simp only [mget, midx]
    by_cases hk : k = p.1
    · simp [hk]
    · simp only [hk, decide_false, if_false, findNow_ents K k r (i + 1) (j + 1)]
      cases mget r k <;> simp <;> omega
/-- Block 'b' is a map with these keys and values. -/
def MapK (enc : α → Value) (h : Heap) (b : Nat) (m : List (α × Value)) : Prop := h[b]? = some (.map (ents enc m 0).toArray m.length)
theorem MapK.lt {enc : α → Value} {h : Heap} {b : Nat} {m : List (α × Value)} (x : MapK enc h b m) : b < h.size := (Array.getElem?_eq_some_iff.1 x).1
theorem MapK.only {enc : α → Value} {bs : List Nat} {h h' : Heap} {b : Nat} {m : List (α × Value)} (x : MapK enc h b m) (y : Only bs h h') (hn : b ∉ bs) : MapK enc h' b m := (y.same b x.lt hn).trans x
theorem MapK.ext {enc : α → Value} {h h' : Heap} {b : Nat} {m : List (α × Value)} (x : MapK enc h b m) (y : Ext h h') : MapK enc h' b m := x.only y (by simp)
theorem MapK.get {enc : α → Value} {h : Heap} {b : Nat} {m : List (α × Value)} (x : MapK enc h b m) : h[b]? = some (.map (ents enc m 0).toArray m.length) := x
theorem MapK.congr {enc : α → Value} {h : Heap} {b : Nat} {m m' : List (α × Value)} (x : MapK enc h b m) (e : m = m') : MapK enc h b m' := e ▸ x

theorem set_only {h : Heap} {b : Nat} {o o' : Obj} (hb : h[b]? = some o) : Only [b] h (h.setIfInBounds b o') ∧ (h.setIfInBounds b o').size = h.size ∧ (h.setIfInBounds b o')[b]? = some o' := by
  have hlt : b < h.size := (Array.getElem?_eq_some_iff.1 hb).1
  refine ⟨⟨by simp, fun k hk hn => ?_⟩, by simp, by simp [hlt]⟩
  simp at hn
  simp [Ne.symm hn]

section
variable {P : Program} {n : Nat} {e : Env} {h : Heap} {d : Option Tmp} {t : TypeId} {pos : String} {af : Array Edge} {g : Option (Nat × Bool)}
variable {T KT E : TypeId} {x y z : Operand} {b : Nat} {D : TypeDesc} {enc : α → Value} {m : List (α × Value)} {k : α} {u v : Value}
theorem M_makeMap (enc : α → Value) : Mks P n e h ⟨d, .makeMap T none, t, pos, af, g⟩ (fun u h' => u = .map (some h.size) ∧ Ext h h' ∧ MapK enc h' h.size []) := fun w a hh he => by
  subst hh
  obtain ⟨h1, h2, h3⟩ := heap_push w.heap (.map #[] 0)
  refine ⟨_, { w with heap := w.heap.push (.map #[] 0) }, ?_, rfl, rfl, h1, h3⟩
  simp [execOp, Instr.makeMap, newObj, Sem.run]
theorem run_zero {w : World} (hz : (P.info? E).bind (·.zero) = some u) : (zeroValue E).run P w = .ok u w := by
  cases hi : P.info? E with
  | none => rw [hi] at hz; cases hz
  | some i => rw [hi] at hz; simp only [Option.bind_some] at hz; simp [zeroValue, typeInfo, hi, hz]
theorem run_look (K : Key D enc) (hT : P.underlying T = some (.map KT E)) (hK : P.underlying KT = some D) (hz : (P.info? E).bind (·.zero) = some u) (hb : MapK enc h b m) (ok : Bool) (w : World) (hw : w.heap = h) :
    (Instr.lookup T (.map (some b)) (enc k) ok).run P w = .ok (if ok then .tuple #[(mget m k).getD u, .bool (mget m k).isSome] else (mget m k).getD u) w := by
  subst hw
  have h1 := MapKept.run_getObj_map (P := P) (MapK.get hb)
  have h2 := MapKept.run_findKey (P := P) (w := w) hK (findNow_ents K k m 0 0)
  have h3 := MapKept.run_checkKey (P := P) (w := w) hK (K.is k) (ents enc m 0).toArray.isEmpty 9999
  simp only [Instr.lookup, Sem.run_bind, run_underlying hT, Result.andThen_ok, h1, Sem.run_pure, h3, h2]
  cases hg : mget m k with
  | none => simp [run_zero hz]
  | some v => simp
theorem Y_look2 (K : Key D enc) (hT : P.underlying T = some (.map KT E)) (hK : P.underlying KT = some D) (hz : (P.info? E).bind (·.zero) = some u) (hx : ev e x = some (.map (some b))) (hy : ev e y = some (enc k)) (hb : MapK enc h b m) :
    Yld P n e h ⟨d, .lookup T x y true, t, pos, af, g⟩ (.tuple #[(mget m k).getD u, .bool (mget m k).isSome]) := fun w a hh he => by
  have h1 := run_look (P := P) (k := k) K hT hK hz hb true w hh
  simp only [execOp, he.eval hx, he.eval hy, Sem.run_bind, h1, Result.andThen_ok, Sem.run_pure]
  rfl
theorem sameBits_key {D : TypeDesc} {v : Value} (hv : IsKey D v) (N : Nat) : Instr.sameBits (N + 1) v v = true := by
  cases D <;> cases v <;> simp_all [IsKey, Instr.sameBits, bytes_beq]
theorem run_update (K : Key D enc) (hT : P.underlying T = some (.map KT E)) (hK : P.underlying KT = some D) (w : World) (hb : MapK enc w.heap b m) :
    ∃ w', (Instr.mapUpdate T (.map (some b)) (enc k) v).run P w = .ok () w' ∧ std w' = std w ∧ Only [b] w.heap w'.heap ∧ w'.heap.size = w.heap.size ∧ MapK enc w'.heap b (mset m k v) := by
  have h1 := MapKept.run_getObj_map (P := P) (MapK.get hb)
  have h2 := MapKept.run_findKey (P := P) (w := w) hK (findNow_ents K k m 0 0)
  have h3 := MapKept.run_checkKey (P := P) (w := w) hK (K.is k) false 9999
  cases hg : mget m k with
  | none =>
    obtain ⟨o1, o2, o3⟩ := set_only (h := w.heap) (o' := .map ((ents enc m 0).toArray.push { key := enc k, val := v, born := m.length }) (m.length + 1)) (MapK.get hb)
    refine ⟨{ w with heap := w.heap.setIfInBounds b (.map ((ents enc m 0).toArray.push { key := enc k, val := v, born := m.length }) (m.length + 1)) }, ?_, rfl, o1, o2, ?_⟩
    · rw [hg] at h2
      simp only [Instr.mapUpdate, Sem.run_bind, run_underlying hT, Result.andThen_ok, h1, h3, h2, Option.map_none, MapKept.run_setObj_map _ (MapK.get hb)]
    · unfold MapK
      rw [mset_new m k v hg, ents_append]
      simpa using o3
  | some v0 =>
    obtain ⟨m1, m2, m3, m4, m5⟩ := ents_mset enc m 0 k v (by rw [hg]; simp)
    obtain ⟨o1, o2, o3⟩ := set_only (h := w.heap) (o' := .map ((ents enc m 0).toArray.modify (midx m k) fun e => { e with key := enc k, val := v }) m.length) (MapK.get hb)
    refine ⟨{ w with heap := w.heap.setIfInBounds b (.map ((ents enc m 0).toArray.modify (midx m k) fun e => { e with key := enc k, val := v }) m.length) }, ?_, rfl, o1, o2, ?_⟩
    · rw [hg] at h2
      have hs : Instr.sameBits 10000 (enc k) (enc k) = true := sameBits_key (K.is k) 9999
      simp only [Instr.mapUpdate, Sem.run_bind, run_underlying hT, Result.andThen_ok, h1, h3, h2, Option.map_some, Nat.zero_add, List.getElem?_toArray, m3, Option.getD_some, Instr.keyThatStays, hs, if_true, Sem.run_pure, MapKept.run_setObj_map _ (MapK.get hb)]
    · unfold MapK
      rw [m1, mset_length_old m k v (by rw [hg]; simp)]
      simpa using o3
theorem D_update (K : Key D enc) (hT : P.underlying T = some (.map KT E)) (hK : P.underlying KT = some D) (hx : ev e x = some (.map (some b))) (hy : ev e y = some (enc k)) (hz : ev e z = some v) (hb : MapK enc h b m) :
    Dos P n e h ⟨d, .mapUpdate T x y z, t, pos, af, g⟩ (fun h' => Only [b] h h' ∧ h'.size = h.size ∧ MapK enc h' b (mset m k v)) := fun w a hh he => by
  subst hh
  obtain ⟨w', h1, h2, h3, h4, h5⟩ := run_update (P := P) (k := k) (v := v) K hT hK w hb
  exact ⟨w', by simp only [execOp, he.eval hx, he.eval hy, he.eval hz, Sem.run_bind, h1, Result.andThen_ok, Sem.run_pure], h2, h3, h4, h5⟩
theorem D_insert (K : Key D enc) (hT : P.underlying T = some (.map KT E)) (hK : P.underlying KT = some D) (hx : ev e x = some (.map (some b))) (hy : ev e y = some (enc k)) (hz : ev e z = some v) (hb : MapK enc h b m) :
    Dos P n e h ⟨d, .insert T x y z, t, pos, af, g⟩ (fun h' => Only [b] h h' ∧ h'.size = h.size ∧ MapK enc h' b (mset m k v)) := fun w a hh he => by
  subst hh
  obtain ⟨w', h1, h2, h3, h4, h5⟩ := run_update (P := P) (k := k) (v := v) K hT hK w hb
  exact ⟨w', by simp only [execOp, he.eval hx, he.eval hy, he.eval hz, Sem.run_bind, h1, Result.andThen_ok, Sem.run_pure], h2, h3, h4, h5⟩
end
end
theorem keyS : Key .string (fun l : List UInt8 => str l) where
  is _ := trivial
  same a b := by
    simp only [Instr.sameNow]
    congr 1
    rw [Bool.eq_iff_iff]
    rw [bytes_beq]
    simp
end Go.Xp

/- 'for _, c := range s' over a text: the iterator, told by the bytes. -/
namespace Go.Xp
open MapKept

theorem decode_fst {s : List UInt8} {pos : Nat} (hp : pos < s.length) : ((byt s pos < 128 ∧ Utf8.decode ⟨s.toArray⟩ pos = ((byt s pos).toNat, 1)) ∨ (128 ≤ byt s pos ∧ 128 ≤ (Utf8.decode ⟨s.toArray⟩ pos).1)) := by
  have hb : ((⟨s.toArray⟩ : ByteArray).get! pos).toNat = (byt s pos).toNat := by
    have : (⟨s.toArray⟩ : ByteArray).get! pos = s.getD pos 0 := by
      simp [ByteArray.get!, List.getD_eq_getElem?_getD]
      rfl
    rw [this]; unfold byt; simp
  have h0 := byt_lt s pos
  by_cases h1 : byt s pos < 128
  · refine .inl ⟨h1, ?_⟩
    unfold Utf8.decode
    simp only [Nat.add_zero, hb]
    rw [if_pos (by omega)]
  · refine .inr ⟨by omega, ?_⟩
    unfold Utf8.decode
    simp only [Nat.add_zero, hb]
    rw [if_neg (by omega)]
    repeat' split
    all_goals first | (simp only [Utf8.runeError]; omega) | (simp only []; rename_i h9; first | omega | (simp at h9; omega))
def StrIt (h : Heap) (r : Nat) (s : List UInt8) (pos : Nat) : Prop := h[r]? = some (.stringIter ⟨s.toArray⟩ pos)
theorem StrIt.lt {h : Heap} {r : Nat} {s : List UInt8} {pos : Nat} (x : StrIt h r s pos) : r < h.size := (Array.getElem?_eq_some_iff.1 x).1
theorem StrIt.only {bs : List Nat} {h h' : Heap} {r : Nat} {s : List UInt8} {pos : Nat} (x : StrIt h r s pos) (y : Only bs h h') (hn : r ∉ bs) : StrIt h' r s pos := (y.same r x.lt hn).trans x
theorem StrIt.ext {h h' : Heap} {r : Nat} {s : List UInt8} {pos : Nat} (x : StrIt h r s pos) (y : Ext h h') : StrIt h' r s pos := x.only y (by simp)
section
variable {P : Program} {n : Nat} {e : Env} {h : Heap} {d : Option Tmp} {t : TypeId} {pos : String} {af : Array Edge} {g : Option (Nat × Bool)}
variable {T : TypeId} {x : Operand} {s : List UInt8} {r p : Nat}
theorem M_rangestr (hT : P.underlying T = some .string) (hx : ev e x = some (str s)) : Mks P n e h ⟨d, .range T x, t, pos, af, g⟩ (fun u h' => u = .pointer (some ⟨h.size, 0, none⟩) ∧ Ext h h' ∧ StrIt h' h.size s 0) := fun w a hh he => by
  subst hh
  obtain ⟨h1, h2, h3⟩ := heap_push w.heap (.stringIter ⟨s.toArray⟩ 0)
  refine ⟨_, { w with heap := w.heap.push (.stringIter ⟨s.toArray⟩ 0) }, ?_, rfl, rfl, h1, h3⟩
  simp [execOp, he.eval hx, Instr.range, run_underlying hT, newObj, Sem.run]
/-- What the next rune tells of the byte that stands there. -/
def Rune (s : List UInt8) (p : Nat) (c : Int) (w : Nat) : Prop := p < s.length ∧ (48 ≤ c ∧ c ≤ 57 → byt s p = c ∧ w = 1) ∧ (¬ (48 ≤ c ∧ c ≤ 57) → ¬ (48 ≤ byt s p ∧ byt s p ≤ 57)) ∧ 0 ≤ c
theorem M_nextstr (hx : ev e x = some (.pointer (some ⟨r, 0, none⟩))) (hr : StrIt h r s p) : Mks P n e h ⟨d, .next x true, t, pos, af, g⟩ (fun u h' => (s.length ≤ p ∧ u = .tuple #[.bool false] ∧ Ext h h') ∨ ∃ (c : Int) (w : Nat), Rune s p c w ∧ u = .tuple #[.bool true, .int .i64 (p : Int), .int .i32 c] ∧ Only [r] h h' ∧ h'.size = h.size ∧ StrIt h' r s (p + w)) := fun w a hh he => by
  subst hh
  have hg : (getObj r).run P w = .ok (.stringIter ⟨s.toArray⟩ p) w := by
    have hr' : w.heap[r]? = some (.stringIter ⟨s.toArray⟩ p) := hr
    simp [getObj, Sem.run, hr']
  have hsz : (⟨s.toArray⟩ : ByteArray).size = s.length := by simp [ByteArray.size]
  by_cases hp : p < s.length
  · obtain ⟨o1, o2, o3⟩ := set_only (o' := .stringIter ⟨s.toArray⟩ (p + (Utf8.decode ⟨s.toArray⟩ p).2)) (show w.heap[r]? = some _ from hr)
    have hs : (setObj r (.stringIter ⟨s.toArray⟩ (p + (Utf8.decode ⟨s.toArray⟩ p).2))).run P w = .ok () { w with heap := w.heap.setIfInBounds r (.stringIter ⟨s.toArray⟩ (p + (Utf8.decode ⟨s.toArray⟩ p).2)) } := by
      have hr' : w.heap[r]? = some (.stringIter ⟨s.toArray⟩ p) := hr
      simp [setObj, Sem.run, hr']
    refine ⟨_, { w with heap := w.heap.setIfInBounds r (.stringIter ⟨s.toArray⟩ (p + (Utf8.decode ⟨s.toArray⟩ p).2)) }, ?_, rfl, .inr ⟨((Utf8.decode ⟨s.toArray⟩ p).1 : Int), (Utf8.decode ⟨s.toArray⟩ p).2, ?_, rfl, o1, o2, o3⟩⟩
    · simp only [execOp, he.eval hx, Instr.next, Sem.run_bind, hg, Result.andThen_ok, hsz, if_pos hp, hs, Sem.run_pure, goInt]
    · have h0 := byt_lt s p
      rcases decode_fst hp with ⟨h1, h2⟩ | ⟨h1, h2⟩
      · rw [h2]
        refine ⟨hp, fun _ => ⟨by simp only []; omega, rfl⟩, fun h3 => by simp only [] at h3; omega, by simp only []; omega⟩
      · exact ⟨hp, fun h3 => by omega, fun _ => by omega, by omega⟩
  · refine ⟨_, w, ?_, rfl, .inl ⟨by omega, rfl, Ext.refl _⟩⟩
    simp only [execOp, he.eval hx, Instr.next, Sem.run_bind, hg, Result.andThen_ok, hsz, if_neg hp, Sem.run_pure]
end
end Go.Xp
