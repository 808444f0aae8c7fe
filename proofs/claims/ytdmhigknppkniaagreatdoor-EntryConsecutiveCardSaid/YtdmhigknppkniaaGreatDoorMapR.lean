/- Maps whose keys are pointers into one block; ranging over such a map, in whatever order. -/
import Derived.Test.YtdmhigknppkniaaGreatDoorRune
import Derived.Laws.IdiomRangeMap
set_option linter.unusedSimpArgs false
set_option linter.unusedVariables false
set_option linter.unusedSectionVars false
namespace Go.Xp

abbrev encP (B : Nat) : Nat → Value := fun o => .pointer (some ⟨B, o, none⟩)
section
variable {P : Program} {kt E : TypeId} {z B o : Nat}
theorem run_equalIn_ptr (hK : P.underlying kt = some (.pointer E)) (hE : (P.info? E).map (·.size) = some (z + 1)) (d o' : Nat) (w : World) : (Op.equalIn (d + 1) kt (encP B o) (encP B o')).run P w = .ok (decide (o = o')) w := by
  have h1 : ((⟨B, o, none⟩ : Addr) == ⟨B, o', none⟩) = decide (o = o') := by
    rw [Bool.eq_iff_iff, beq_iff_eq, decide_eq_true_eq]; simp
  simp only [Op.equalIn, Sem.run_bind, run_underlying hK, Result.andThen_ok, run_sizeOf w hE, ne_eq, Nat.succ_ne_zero, not_false_eq_true, if_true, Sem.run_ite, sameAddr, beq_self_eq_true, Sem.run_pure, h1]
theorem run_equal_ptr (hK : P.underlying kt = some (.pointer E)) (hE : (P.info? E).map (·.size) = some (z + 1)) (o' : Nat) (w : World) : (Op.equal kt (encP B o) (encP B o')).run P w = .ok (decide (o = o')) w :=
  run_equalIn_ptr hK hE 9999 o' w
theorem run_checkKey_ptr (hK : P.underlying kt = some (.pointer E)) (d : Nat) (w : World) : (Instr.checkKey false (d + 1) kt (encP B o)).run P w = .ok () w := by
  simp only [Instr.checkKey, Sem.run_bind, run_underlying hK, Result.andThen_ok, Sem.run_pure]
theorem run_findAsking_ptr (hK : P.underlying kt = some (.pointer E)) (hE : (P.info? E).map (·.size) = some (z + 1)) : ∀ (m : List (Nat × Value)) (i j : Nat) (w : World), (∀ p ∈ m, p.1 ≠ o) → (Instr.findAsking kt (encP B o) (ents (encP B) m i) j).run P w = .ok none w
  | [], _, _, _, _ => by simp [ents, Instr.findAsking]
  | p :: r, i, j, w, hn => by
    have h1 : decide (o = p.1) = false := decide_eq_false (fun e => hn p (by simp) e.symm)
    have h2 := run_equal_ptr (B := B) (o := o) hK hE p.1 w
    rw [h1] at h2
    simp only [ents, Instr.findAsking, Sem.run_bind, h2, Result.andThen_ok, Bool.false_eq_true, if_false, Sem.run_ite]
    exact run_findAsking_ptr hK hE r (i + 1) (j + 1) w (fun q hq => hn q (by simp [hq]))
theorem run_findKey_ptr (hK : P.underlying kt = some (.pointer E)) (hE : (P.info? E).map (·.size) = some (z + 1)) (m : List (Nat × Value)) (w : World) (hn : ∀ p ∈ m, p.1 ≠ o) : (Instr.findKey kt (encP B o) (ents (encP B) m 0)).run P w = .ok none w := by
  cases m with
  | nil => simp only [Instr.findKey, ents, Instr.findNow, Sem.run_bind, run_underlying hK, Result.andThen_ok, Sem.run_pure]
  | cons p r =>
    have h1 := run_findAsking_ptr (B := B) (o := o) hK hE (p :: r) 0 0 w hn
    have h2 : Instr.findNow (.pointer E) (encP B o) (ents (encP B) (p :: r) 0) 0 = none := rfl
    simp only [Instr.findKey, Sem.run_bind, run_underlying hK, Result.andThen_ok, h2]
    exact h1
end
section
variable {P : Program} {n : Nat} {e : Env} {h : Heap} {d : Option Tmp} {t : TypeId} {pos : String} {af : Array Edge} {g : Option (Nat × Bool)}
variable {T KT E EV : TypeId} {x y q : Operand} {b B o z : Nat} {m : List (Nat × Value)} {v : Value}
theorem D_insertP (hT : P.underlying T = some (.map KT EV)) (hK : P.underlying KT = some (.pointer E)) (hE : (P.info? E).map (·.size) = some (z + 1)) (hx : ev e x = some (.map (some b))) (hy : ev e y = some (.pointer (some ⟨B, o, none⟩))) (hz : ev e q = some v) (hb : MapK (encP B) h b m) (hn : ∀ p ∈ m, p.1 ≠ o) :
    Dos P n e h ⟨d, .insert T x y q, t, pos, af, g⟩ (fun h' => Only [b] h h' ∧ h'.size = h.size ∧ MapK (encP B) h' b (m ++ [(o, v)])) := fun w a hh he => by
  subst hh
  have h1 := MapKept.run_getObj_map (P := P) (MapK.get hb)
  have h2 := run_findKey_ptr (B := B) (o := o) hK hE m w hn
  have h3 : (Instr.checkKey false 10000 KT (encP B o)).run P w = .ok () w := run_checkKey_ptr hK 9999 w
  obtain ⟨o1, o2, o3⟩ := set_only (h := w.heap) (o' := .map ((ents (encP B) m 0).toArray.push { key := encP B o, val := v, born := m.length }) (m.length + 1)) (MapK.get hb)
  refine ⟨{ w with heap := w.heap.setIfInBounds b (.map ((ents (encP B) m 0).toArray.push { key := encP B o, val := v, born := m.length }) (m.length + 1)) }, ?_, rfl, o1, o2, ?_⟩
  · have h4 : (Instr.mapUpdate T (.map (some b)) (encP B o) v).run P w = .ok () { w with heap := w.heap.setIfInBounds b (.map ((ents (encP B) m 0).toArray.push { key := encP B o, val := v, born := m.length }) (m.length + 1)) } := by
      simp only [Instr.mapUpdate, Sem.run_bind, run_underlying hT, Result.andThen_ok, h1, h3, h2, MapKept.run_setObj_map _ (MapK.get hb)]
    simp only [execOp, he.eval hx, he.eval hy, he.eval hz, Sem.run_bind, h4, Result.andThen_ok, Sem.run_pure]
  · unfold MapK
    rw [ents_append]
    simpa using o3
/-- An iterator over such a map that has handed out the keys of 'done'. -/
def PIt (B : Nat) (h : Heap) (it b : Nat) (l : List (Nat × Value)) (done : Nat → Bool) : Prop :=
  ∃ (l' : List (Nat × Value)) (seen : Array Nat) (c0 : Nat), MapK (encP B) h b l' ∧ (l'.map (·.1)).Nodup ∧ (∀ p, p ∈ l' ↔ p ∈ l) ∧ h[it]? = some (.mapIter (some b) l'.length seen c0) ∧ l'.length ≤ c0 ∧ ∀ i p, l'[i]? = some p → seen.contains i = done p.1
/-- The iterator has just handed out the entry p. -/
def PItE (B : Nat) (h : Heap) (it b : Nat) (l : List (Nat × Value)) (done : Nat → Bool) (p : Nat × Value) : Prop :=
  ∃ (l' : List (Nat × Value)) (seen : Array Nat) (i : Nat), MapK (encP B) h b l' ∧ (l'.map (·.1)).Nodup ∧ (∀ p, p ∈ l' ↔ p ∈ l) ∧ l'[i]? = some p ∧ h[it]? = some (.mapIter (some b) l'.length (seen.push i) l'.length) ∧ ∀ j r, l'[j]? = some r → (seen.push i).contains j = (decide (r.1 = p.1) || done r.1)
theorem PItE.it {B it b : Nat} {l : List (Nat × Value)} {done : Nat → Bool} {p : Nat × Value} (k : PItE B h it b l done p) : PIt B h it b l (fun o => decide (o = p.1) || done o) := by
  obtain ⟨l', seen, i, h1, h2, h3, h4, h5, h7⟩ := k
  exact ⟨l', _, _, h1, h2, h3, h5, Nat.le_refl _, h7⟩
theorem PIt.only {B it b : Nat} {bs : List Nat} {h' : Heap} {l : List (Nat × Value)} {done : Nat → Bool} (k : PIt B h it b l done) (y : Only bs h h') (h1 : it ∉ bs) (h2 : b ∉ bs) : PIt B h' it b l done := by
  obtain ⟨l', seen, c0, k1, k2, k3, k4, k5, k6⟩ := k
  exact ⟨l', seen, c0, k1.only y h2, k2, k3, (y.same it (Array.getElem?_eq_some_iff.1 k4).1 h1).trans k4, k5, k6⟩
theorem PItE.only {B it b : Nat} {bs : List Nat} {h' : Heap} {l : List (Nat × Value)} {done : Nat → Bool} {p : Nat × Value} (k : PItE B h it b l done p) (y : Only bs h h') (h1 : it ∉ bs) (h2 : b ∉ bs) : PItE B h' it b l done p := by
  obtain ⟨l', seen, i, k1, k2, k3, k4, k5, k7⟩ := k
  exact ⟨l', seen, i, k1.only y h2, k2, k3, k4, (y.same it (Array.getElem?_eq_some_iff.1 k5).1 h1).trans k5, k7⟩
theorem PIt.ext {B it b : Nat} {h' : Heap} {l : List (Nat × Value)} {done : Nat → Bool} (k : PIt B h it b l done) (y : Ext h h') : PIt B h' it b l done := k.only y (by simp) (by simp)
theorem PItE.ext {B it b : Nat} {h' : Heap} {l : List (Nat × Value)} {done : Nat → Bool} {p : Nat × Value} (k : PItE B h it b l done p) (y : Ext h h') : PItE B h' it b l done p := k.only y (by simp) (by simp)
def AtM (h : Heap) (b : Nat) : Prop := b < h.size
theorem AtM.lt {b : Nat} (x : AtM h b) : b < h.size := x
theorem PIt.atm {B it b : Nat} {l : List (Nat × Value)} {done : Nat → Bool} (k : PIt B h it b l done) : AtM h b := by
  obtain ⟨l', seen, c0, k1, k2, k3, k4, k5, k6⟩ := k
  exact k1.lt
theorem PItE.lt {B it b : Nat} {l : List (Nat × Value)} {done : Nat → Bool} {p : Nat × Value} (k : PItE B h it b l done p) : it < h.size := by
  obtain ⟨l', seen, i, k1, k2, k3, k4, k5, k7⟩ := k
  exact (Array.getElem?_eq_some_iff.1 k5).1
theorem PItE.atm {B it b : Nat} {l : List (Nat × Value)} {done : Nat → Bool} {p : Nat × Value} (k : PItE B h it b l done p) : AtM h b := by
  obtain ⟨l', seen, i, k1, k2, k3, k4, k5, k7⟩ := k
  exact k1.lt
theorem PIt.lt {B it b : Nat} {l : List (Nat × Value)} {done : Nat → Bool} (k : PIt B h it b l done) : it < h.size := by
  obtain ⟨l', seen, c0, k1, k2, k3, k4, k5, k6⟩ := k
  exact (Array.getElem?_eq_some_iff.1 k4).1
theorem M_rangemap (hT : P.underlying T = some (.map KT EV)) (hx : ev e x = some (.map (some b))) (hb : MapK (encP B) h b m) :
    Mks P n e h ⟨d, .range T x, t, pos, af, g⟩ (fun u h' => u = .pointer (some ⟨h.size, 0, none⟩) ∧ Ext h h' ∧ h'[h.size]? = some (.mapIter (some b) m.length #[] m.length)) := fun w a hh he => by
  subst hh
  obtain ⟨h1, h2, h3⟩ := heap_push w.heap (.mapIter (some b) m.length #[] m.length)
  refine ⟨_, { w with heap := w.heap.push (.mapIter (some b) m.length #[] m.length) }, ?_, rfl, rfl, h1, h3⟩
  have h4 := MapKept.run_getObj_map (P := P) (MapK.get hb)
  simp [execOp, he.eval hx, Instr.range, run_underlying hT, h4, newObj, Sem.run]
theorem PIt.start {B it b : Nat} {l l' : List (Nat × Value)} (hb : MapK (encP B) h b l') (hn : (l'.map (·.1)).Nodup) (hm : ∀ p, p ∈ l' ↔ p ∈ l) (hi : h[it]? = some (.mapIter (some b) l'.length #[] l'.length)) : PIt B h it b l (fun _ => false) :=
  ⟨l', #[], l'.length, hb, hn, hm, hi, Nat.le_refl _, fun i p _ => by simp⟩
theorem ents_get (enc : Nat → Value) : ∀ (m : List (Nat × Value)) (k i : Nat), (ents enc m k)[i]? = m[i]?.map (fun p => ⟨enc p.1, p.2, k + i⟩)
  | [], _, _ => by simp [ents]
  | p :: r, k, 0 => by simp [ents]
  | p :: r, k, i + 1 => by
    simp only [ents, List.getElem?_cons_succ, ents_get enc r (k + 1) i]
    congr 1
    funext p; congr 1; omega
theorem ents_mem {enc : Nat → Value} {m : List (Nat × Value)} {x : MapEntry} (h : x ∈ ents enc m 0) : ∃ i p, m[i]? = some p ∧ x = ⟨enc p.1, p.2, i⟩ := by
  obtain ⟨i, hi⟩ := List.mem_iff_getElem?.1 h
  rw [ents_get] at hi
  cases hp : m[i]? with
  | none => rw [hp] at hi; cases hi
  | some p => rw [hp, Option.map_some, Nat.zero_add] at hi; exact ⟨i, p, hp, (Option.some.inj hi).symm⟩
theorem nodup_at {m : List (Nat × Value)} (hn : (m.map (·.1)).Nodup) {i j : Nat} {p r : Nat × Value} (hi : m[i]? = some p) (hj : m[j]? = some r) (e : r.1 = p.1) : j = i := by
  have h1 : (m.map (·.1))[i]? = some p.1 := by rw [List.getElem?_map, hi]; rfl
  have h2 : (m.map (·.1))[j]? = some p.1 := by rw [List.getElem?_map, hj]; exact congrArg some e
  obtain ⟨hl1, g1⟩ := List.getElem?_eq_some_iff.1 h1
  obtain ⟨hl2, g2⟩ := List.getElem?_eq_some_iff.1 h2
  exact (List.getElem_inj (h₀ := hl2) (h₁ := hl1) hn).1 (g2.trans g1.symm)
theorem M_nextmap {it : Nat} {l : List (Nat × Value)} {done : Nat → Bool} (hx : ev e x = some (.pointer (some ⟨it, 0, none⟩))) (hr : PIt B h it b l done) :
    Mks P n e h ⟨d, .next x false, t, pos, af, g⟩ (fun u h' => (u = .tuple #[.bool false] ∧ Ext h h' ∧ ∀ p ∈ l, done p.1 = true) ∨ ∃ p ∈ l, done p.1 = false ∧ u = .tuple #[.bool true, encP B p.1, p.2] ∧ Only [it] h h' ∧ PItE B h' it b l done p) := fun w a hh he => by
  subst hh
  obtain ⟨l', seen, c0, k1, k2, k3, k4, k5, k6⟩ := hr
  have hg : (getObj it).run P w = .ok (.mapIter (some b) l'.length seen c0) w := by simp [getObj, Sem.run, k4]
  have hg2 := MapKept.run_getObj_map (P := P) (MapK.get k1)
  have hold : ∀ y ∈ (ents (encP B) l' 0).toArray.toList, y.born < l'.length := fun y hy => by
    obtain ⟨i, p, hi, rfl⟩ := ents_mem (by simpa using hy)
    exact (List.getElem?_eq_some_iff.1 hi).1
  have ht := Go.next_test_false seen (ents (encP B) l' 0).toArray l'.length c0 hold k5
  have hmem : ∀ y ∈ ((ents (encP B) l' 0).toArray.filter (fun e => !seen.contains e.born)).toList, y.born < l'.length := fun y hy => hold y (by simp at hy ⊢; exact hy.1)
  have hL : ∀ y, y ∈ ((ents (encP B) l' 0).toArray.filter (fun e => !seen.contains e.born)) ↔ (y ∈ ents (encP B) l' 0 ∧ seen.contains y.born = false) := fun y => by simp
  generalize hLL : (ents (encP B) l' 0).toArray.filter (fun e => !seen.contains e.born) = L at hmem hL
  have e1 : L.filter (fun x => decide (x.born < l'.length)) = L := Array.filter_eq_self.2 (fun x hx => by simpa using hmem x (by simpa using hx))
  have e2 : L.filter (fun x => decide (x.born ≥ l'.length)) = #[] := by
    rw [Array.filter_eq_empty_iff]
    intro x hx
    have := hmem x (by simpa using hx)
    simp; omega
  by_cases h0 : L.size = 0
  · have hL0 : L = #[] := Array.eq_empty_of_size_eq_zero h0
    refine ⟨_, w, ?_, rfl, .inl ⟨rfl, Ext.refl _, fun p hp => ?_⟩⟩
    · simp only [execOp, he.eval hx, Instr.next, Sem.run_bind, hg, Result.andThen_ok, hg2, ht, Bool.false_eq_true, if_false, hLL, e1, e2, Array.append_empty, Sem.run_pure, Sem.run_ite]
      subst hL0
      simp [choose, Sem.run, Question.forced, Result.andThen]
    · obtain ⟨i, hi⟩ := List.mem_iff_getElem?.1 ((k3 p).2 hp)
      rw [← k6 i p hi]
      apply Decidable.byContradiction; intro hc
      have hmem2 : (⟨encP B p.1, p.2, i⟩ : MapEntry) ∈ L := (hL _).2 ⟨List.mem_iff_getElem?.2 ⟨i, by rw [ents_get, hi, Option.map_some, Nat.zero_add]⟩, by simpa using hc⟩
      rw [hL0] at hmem2; simp at hmem2
  · have hch : ∃ (j : Nat) (w1 : World), j < L.size ∧ w1.heap = w.heap ∧ std w1 = std w ∧ (choose (Question.mapNext L.size)).run P w = .ok j w1 := by
      by_cases hf : L.size ≤ 1
      · exact ⟨0, w, by omega, rfl, rfl, by simp [choose, Sem.run, Question.forced, hf]⟩
      · exact ⟨_, w.drew, Nat.mod_lt _ (by omega), rfl, rfl, by
          simp only [choose, Sem.run, Question.forced, decide_eq_true_eq, hf, if_false, Question.cut]
          rfl⟩
    obtain ⟨j, w1, hj, hw1, hs1, hrun⟩ := hch
    have hne : L.isEmpty = false := by simp [Array.isEmpty, h0]
    obtain ⟨hm1, hm2⟩ := (hL L[j]).1 (Array.getElem_mem hj)
    obtain ⟨i, p, hi, hq⟩ := ents_mem hm1
    rw [hq] at hm2
    obtain ⟨o1, o2, o3⟩ := set_only (o' := .mapIter (some b) l'.length (seen.push i) l'.length) (show w.heap[it]? = some _ from k4)
    have hset : (setObj it (.mapIter (some b) l'.length (seen.push i) l'.length)).run P w1 = .ok () { w1 with heap := w1.heap.setIfInBounds it (.mapIter (some b) l'.length (seen.push i) l'.length) } := by
      have hr' : w1.heap[it]? = some (.mapIter (some b) l'.length seen c0) := by rw [hw1]; exact k4
      simp [setObj, Sem.run, hr']
    have hitb : b ≠ it := by
      rintro rfl
      have h9 : w.heap[b]? = some (.map (ents (encP B) l' 0).toArray l'.length) := k1
      rw [k4] at h9; cases h9
    have hp : p ∈ l := (k3 p).1 (List.mem_iff_getElem?.2 ⟨i, hi⟩)
    refine ⟨_, { w1 with heap := w1.heap.setIfInBounds it (.mapIter (some b) l'.length (seen.push i) l'.length) }, ?_, ?_, .inr ⟨p, hp, ?_, rfl, ?_, l', seen, i, ?_, k2, k3, hi, ?_, fun j' r hj' => ?_⟩⟩
    · simp only [execOp, he.eval hx, Instr.next, Sem.run_bind, hg, Result.andThen_ok, hg2, ht, Bool.false_eq_true, if_false, hLL, e1, e2, Array.append_empty, Sem.run_pure, Sem.run_ite, hne, Array.empty_append, Array.size_map, hrun, Array.getElem?_map, Array.getElem?_eq_getElem hj, Option.map_some, hq, hset]
    · exact hs1
    · rw [← k6 i p hi]; exact hm2
    · show Only [it] w.heap (w1.heap.setIfInBounds it _)
      rw [hw1]; exact o1
    · show MapK (encP B) (w1.heap.setIfInBounds it _) b l'
      rw [hw1]; exact k1.only o1 (by simp [hitb])
    · show (w1.heap.setIfInBounds it _)[it]? = _
      rw [hw1]; exact o3
    · have h7 := k6 j' r hj'
      rw [← h7]
      by_cases hjj : j' = i
      · subst hjj
        have : r = p := Option.some.inj (hj'.symm.trans hi)
        subst this; simp
      · have : ¬ r.1 = p.1 := fun e9 => hjj (nodup_at k2 hi hj' e9)
        rw [decide_eq_false this]; simp [hjj]
theorem Y_entrymap {it : Nat} {l : List (Nat × Value)} {done : Nat → Bool} {p : Nat × Value} (hx : ev e x = some (.pointer (some ⟨it, 0, none⟩))) (hr : PItE B h it b l done p) :
    Yld P n e h ⟨d, .entry x, t, pos, af, g⟩ (.tuple #[encP B p.1, p.2]) := fun w a hh he => by
  subst hh
  obtain ⟨l', seen, i, k1, k2, k3, k4, k5, k7⟩ := hr
  have hg : (getObj it).run P w = .ok (.mapIter (some b) l'.length (seen.push i) l'.length) w := by simp [getObj, Sem.run, k5]
  have hg2 := MapKept.run_getObj_map (P := P) (MapK.get k1)
  have hf : (ents (encP B) l' 0).toArray.find? (·.born == i) = some ⟨encP B p.1, p.2, i⟩ := by
    rw [List.find?_toArray]
    exact Go.find_born ⟨encP B p.1, p.2, i⟩ (ents (encP B) l' 0) (by
      have : ∀ (m : List (Nat × Value)) (k : Nat), (ents (encP B) m k).map (·.born) = List.range' k m.length := by
        intro m
        induction m with
        | nil => intro k; rfl
        | cons a r ih => intro k; simp [ents, ih, List.range'_succ]
      rw [this]; exact List.nodup_range') (List.mem_iff_getElem?.2 ⟨i, by rw [ents_get, k4, Option.map_some, Nat.zero_add]⟩)
  simp only [execOp, he.eval hx, Instr.entry, Sem.run_bind, hg, Result.andThen_ok, hg2, Array.back?_push, bne_self_eq_false, Bool.false_eq_true, if_false, hf, Sem.run_pure, Sem.run_ite]
end
end Go.Xp
