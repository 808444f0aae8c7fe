/- 'for _, c := range s' over a text: the iterator, told by the bytes. -/
import Derived.Test.YtknimfbagbkjfaaDoorMap
set_option linter.unusedSimpArgs false
set_option linter.unusedVariables false
set_option linter.unusedSectionVars false
namespace Go.Xp
open MapKept

theorem decode_fst {s : List UInt8} {pos : Nat} (hp : pos < s.length) : ((byt s pos < 128 ∧ Utf8.decode ⟨s.toArray⟩ pos = ((byt s pos).toNat, 1)) ∨ (128 ≤ byt s pos ∧ 128 ≤ (Utf8.decode ⟨s.toArray⟩ pos).1)) := by
  have hb : ((⟨s.toArray⟩ : ByteArray).get! pos).toNat = (byt s pos).toNat := by
    have : (⟨s.toArray⟩ : ByteArray).get! pos = s.getD pos 0 := by
      simp [ByteArray.get!, List.getD_eq_getElem?_getD]
      rfl
    rw [this]; unfold byt; simp
  have h0 := byt_lt s pos
  by_cases h1 : byt s pos < 128
  · refine .inl ⟨h1, ?_⟩
    unfold Utf8.decode
    simp only [Nat.add_zero, hb]
    rw [if_pos (by omega)]
  · refine .inr ⟨by omega, ?_⟩
    unfold Utf8.decode
    simp only [Nat.add_zero, hb]
    rw [if_neg (by omega)]
    repeat' split
    all_goals first | (simp only [Utf8.runeError]; omega) | (simp only []; rename_i h9; first | omega | (simp at h9; omega))
def StrIt (h : Heap) (r : Nat) (s : List UInt8) (pos : Nat) : Prop := h[r]? = some (.stringIter ⟨s.toArray⟩ pos)
theorem StrIt.lt {h : Heap} {r : Nat} {s : List UInt8} {pos : Nat} (x : StrIt h r s pos) : r < h.size := (Array.getElem?_eq_some_iff.1 x).1
theorem StrIt.only {bs : List Nat} {h h' : Heap} {r : Nat} {s : List UInt8} {pos : Nat} (x : StrIt h r s pos) (y : Only bs h h') (hn : r ∉ bs) : StrIt h' r s pos := (y.same r x.lt hn).trans x
theorem StrIt.ext {h h' : Heap} {r : Nat} {s : List UInt8} {pos : Nat} (x : StrIt h r s pos) (y : Ext h h') : StrIt h' r s pos := x.only y (by simp)
section
variable {P : Program} {n : Nat} {e : Env} {h : Heap} {d : Option Tmp} {t : TypeId} {pos : String} {af : Array Edge} {g : Option (Nat × Bool)}
variable {T : TypeId} {x : Operand} {s : List UInt8} {r p : Nat}
theorem M_rangestr (hT : P.underlying T = some .string) (hx : ev e x = some (str s)) : Mks P n e h ⟨d, .range T x, t, pos, af, g⟩ (fun u h' => u = .pointer (some ⟨h.size, 0, none⟩) ∧ Ext h h' ∧ StrIt h' h.size s 0) := fun w a hh he => by
  subst hh
  obtain ⟨h1, h2, h3⟩ := heap_push w.heap (.stringIter ⟨s.toArray⟩ 0)
  refine ⟨_, { w with heap := w.heap.push (.stringIter ⟨s.toArray⟩ 0) }, ?_, rfl, rfl, h1, h3⟩
  simp [execOp, he.eval hx, Instr.range, run_underlying hT, newObj, Sem.run]
/-- What the next rune tells of the byte that stands there. -/
def Rune (s : List UInt8) (p : Nat) (c : Int) (w : Nat) : Prop := p < s.length ∧ (48 ≤ c ∧ c ≤ 57 → byt s p = c ∧ w = 1) ∧ (¬ (48 ≤ c ∧ c ≤ 57) → ¬ (48 ≤ byt s p ∧ byt s p ≤ 57)) ∧ 0 ≤ c
theorem M_nextstr (hx : ev e x = some (.pointer (some ⟨r, 0, none⟩))) (hr : StrIt h r s p) : Mks P n e h ⟨d, .next x true, t, pos, af, g⟩ (fun u h' => (s.length ≤ p ∧ u = .tuple #[.bool false] ∧ Ext h h') ∨ ∃ (c : Int) (w : Nat), Rune s p c w ∧ u = .tuple #[.bool true, .int .i64 (p : Int), .int .i32 c] ∧ Only [r] h h' ∧ h'.size = h.size ∧ StrIt h' r s (p + w)) := fun w a hh he => by
  subst hh
  have hg : (getObj r).run P w = .ok (.stringIter ⟨s.toArray⟩ p) w := by
    have hr' : w.heap[r]? = some (.stringIter ⟨s.toArray⟩ p) := hr
    simp [getObj, Sem.run, hr']
  have hsz : (⟨s.toArray⟩ : ByteArray).size = s.length := by simp [ByteArray.size]
  by_cases hp : p < s.length
  · obtain ⟨o1, o2, o3⟩ := set_only (o' := .stringIter ⟨s.toArray⟩ (p + (Utf8.decode ⟨s.toArray⟩ p).2)) (show w.heap[r]? = some _ from hr)
    have hs : (setObj r (.stringIter ⟨s.toArray⟩ (p + (Utf8.decode ⟨s.toArray⟩ p).2))).run P w = .ok () { w with heap := w.heap.setIfInBounds r (.stringIter ⟨s.toArray⟩ (p + (Utf8.decode ⟨s.toArray⟩ p).2)) } := by
      have hr' : w.heap[r]? = some (.stringIter ⟨s.toArray⟩ p) := hr
      simp [setObj, Sem.run, hr']
    refine ⟨_, { w with heap := w.heap.setIfInBounds r (.stringIter ⟨s.toArray⟩ (p + (Utf8.decode ⟨s.toArray⟩ p).2)) }, ?_, rfl, .inr ⟨((Utf8.decode ⟨s.toArray⟩ p).1 : Int), (Utf8.decode ⟨s.toArray⟩ p).2, ?_, rfl, o1, o2, o3⟩⟩
    · simp only [execOp, he.eval hx, Instr.next, Sem.run_bind, hg, Result.andThen_ok, hsz, if_pos hp, hs, Sem.run_pure, goInt]
    · have h0 := byt_lt s p
      rcases decode_fst hp with ⟨h1, h2⟩ | ⟨h1, h2⟩
      · rw [h2]
        refine ⟨hp, fun _ => ⟨by simp only []; omega, rfl⟩, fun h3 => by simp only [] at h3; omega, by simp only []; omega⟩
      · exact ⟨hp, fun h3 => by omega, fun _ => by omega, by omega⟩
  · refine ⟨_, w, ?_, rfl, .inl ⟨by omega, rfl, Ext.refl _⟩⟩
    simp only [execOp, he.eval hx, Instr.next, Sem.run_bind, hg, Result.andThen_ok, hsz, if_neg hp, Sem.run_pure]
end
end Go.Xp
