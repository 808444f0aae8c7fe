/- Layer 14 (flatten): the members of a tree: plain. -/
import Derived.Test.YtknimfbagbkjfaaDoorCanT
import Derived.Test.YtknimfbagbkjfaaDoorBldo
set_option linter.unusedSimpArgs false
set_option linter.unusedVariables false
set_option linter.unusedSectionVars false
namespace Go.Xp

/-- A member without the place of its data. -/
def erm (x : Mem) : Mem := ⟨x.kind, x.path, x.mode, x.target, x.size, .slice none 0 0, x.data⟩
/-- A file of a class of which one has been seen already. -/
def lnk (M : List (Int × List UInt8)) (x : Nod) : Prop := (x.kind = 1 ∧ 0 < x.cls) ∧ (aget M x.cls).isSome = true
instance (M : List (Int × List UInt8)) (x : Nod) : Decidable (lnk M x) := by unfold lnk; infer_instance
def mmem (M : List (Int × List UInt8)) (x : Nod) : Mem :=
  if lnk M x then ⟨3, x.path, x.mode, (aget M x.cls).getD [], 0, .slice none 0 0, []⟩
  else if x.kind = 1 then ⟨x.kind, x.path, x.mode, x.target, (x.data.length : Int), x.dv, x.data⟩
  else ⟨x.kind, x.path, x.mode, x.target, 0, .slice none 0 0, []⟩
def mmap (M : List (Int × List UInt8)) (x : Nod) : List (Int × List UInt8) := if lnk M x then M else if x.kind = 1 then aset M x.cls x.path else M
/-- The map behind the first k nodes. -/
def mmk (C : List Nod) : Nat → List (Int × List UInt8)
  | 0 => []
  | k + 1 => mmap (mmk C k) (at_nod C k)
def mms (C : List Nod) : Nat → List Mem
  | 0 => []
  | k + 1 => mms C k ++ [mmem (mmk C k) (at_nod C k)]
@[simp] theorem mms_len (C : List Nod) : ∀ k, (mms C k).length = k
  | 0 => rfl
  | k + 1 => by unfold mms; rw [List.length_append, mms_len C k]; rfl
/-- The member of node i. -/
def msp (C : List Nod) (i : Nat) : Mem :=
  if ((at_nod C i).kind = 1 ∧ 0 < (at_nod C i).cls) ∧ nfirst C (at_nod C i).cls < i then ⟨3, (at_nod C i).path, (at_nod C i).mode, (at_nod C (nfirst C (at_nod C i).cls)).path, 0, .slice none 0 0, []⟩
  else if (at_nod C i).kind = 1 then ⟨(at_nod C i).kind, (at_nod C i).path, (at_nod C i).mode, (at_nod C i).target, ((at_nod C i).data.length : Int), .slice none 0 0, (at_nod C i).data⟩
  else ⟨(at_nod C i).kind, (at_nod C i).path, (at_nod C i).mode, (at_nod C i).target, 0, .slice none 0 0, []⟩
def mem1 (C : List Nod) : List Mem := (List.range C.length).map (msp C)
/-- Only files have a class. -/
def Cfl (C : List Nod) : Prop := ∀ x ∈ C, 0 < x.cls → x.kind = 1
theorem TSet.cfl {C : List Nod} (h : TSet C) : Cfl C := fun x hx hc => by
  rcases tone_cls (h.one x hx) with q | q
  · omega
  · exact q.2
theorem mmk_get {C : List Nod} (hC : Cfl C) {c : Int} (hc : 0 < c) : ∀ k, k ≤ C.length → aget (mmk C k) c = if nfirst C c < k then some (at_nod C (nfirst C c)).path else none
  | 0, _ => rfl
  | k + 1, h => by
    have ih := mmk_get hC hc k (by omega)
    unfold mmk mmap
    by_cases e : (at_nod C k).cls = c
    · have hk1 := hC _ (can_mem (show k < C.length by omega)) (by omega)
      have hle : nfirst C c ≤ k := by have := nfirst_of (l := C) (i := k) (by omega); rw [e] at this; exact this
      by_cases hf : nfirst C c < k
      · have hl : lnk (mmk C k) (at_nod C k) := ⟨⟨hk1, by rw [e]; exact hc⟩, by rw [e, ih, if_pos hf]; rfl⟩
        rw [if_pos hl, ih, if_pos hf, if_pos (by omega)]
      · have hl : ¬ lnk (mmk C k) (at_nod C k) := fun q => by
          have := q.2
          rw [e, ih, if_neg hf] at this; cases this
        rw [if_neg hl, if_pos hk1, e, aget_aset, if_pos rfl, if_pos (by omega), show nfirst C c = k by omega]
    · have hne : nfirst C c ≠ k := fun q => e (by rw [← q]; exact nfirst_cls (by omega))
      have e2 : (if nfirst C c < k + 1 then some (at_nod C (nfirst C c)).path else none) = if nfirst C c < k then some (at_nod C (nfirst C c)).path else none := by
        by_cases hf : nfirst C c < k
        · rw [if_pos hf, if_pos (by omega)]
        · rw [if_neg hf, if_neg (by omega)]
      rw [e2]
      split
      · exact ih
      · split
        · rw [aget_aset, if_neg (fun q => e q.symm)]; exact ih
        · exact ih
theorem nod_er_cls (C : List Nod) (c : Int) : nfirst (C.map er) c = nfirst C c := by
  induction C with
  | nil => rfl
  | cons x r ih =>
    simp only [List.map_cons, nfirst]
    rw [ih]; rfl
theorem msp_er (C : List Nod) (i : Nat) : msp (C.map er) i = erm (msp C i) := by
  unfold msp
  rw [at_er, nod_er_cls]
  show (if (((at_nod C i).kind = 1 ∧ 0 < (at_nod C i).cls) ∧ nfirst C (at_nod C i).cls < i) then _ else _) = _
  split
  · rw [show (er (at_nod C i)).cls = (at_nod C i).cls from rfl, at_er]; rfl
  · show (if (at_nod C i).kind = 1 then _ else _) = _
    split <;> rfl
theorem mmem_msp {C : List Nod} (hC : Cfl C) {i : Nat} (hi : i < C.length) : erm (mmem (mmk C i) (at_nod C i)) = msp (C.map er) i := by
  rw [msp_er]
  by_cases h : (at_nod C i).kind = 1 ∧ 0 < (at_nod C i).cls
  · have hg := mmk_get hC h.2 i (by omega)
    by_cases hf : nfirst C (at_nod C i).cls < i
    · have hl : lnk (mmk C i) (at_nod C i) := ⟨h, by rw [hg, if_pos hf]; rfl⟩
      unfold mmem msp
      rw [if_pos hl, if_pos ⟨h, hf⟩, hg, if_pos hf]; rfl
    · have hl : ¬ lnk (mmk C i) (at_nod C i) := fun q => by
        have := q.2
        rw [hg, if_neg hf] at this; cases this
      unfold mmem msp
      rw [if_neg hl, if_neg (show ¬ (((at_nod C i).kind = 1 ∧ 0 < (at_nod C i).cls) ∧ nfirst C (at_nod C i).cls < i) from fun q => hf q.2)]
      split <;> rfl
  · have hl : ¬ lnk (mmk C i) (at_nod C i) := fun q => h q.1
    unfold mmem msp
    rw [if_neg hl, if_neg (show ¬ (((at_nod C i).kind = 1 ∧ 0 < (at_nod C i).cls) ∧ nfirst C (at_nod C i).cls < i) from fun q => h q.1)]
    split <;> rfl
theorem mms_mem1 {C : List Nod} (hC : Cfl C) : (mms C C.length).map erm = mem1 (C.map er) := by
  have : ∀ k, k ≤ C.length → (mms C k).map erm = (List.range k).map (msp (C.map er)) := by
    intro k
    induction k with
    | zero => intro _; rfl
    | succ k ih =>
      intro h
      unfold mms
      rw [List.map_append, ih (by omega), List.range_succ, List.map_append, List.map_cons, List.map_nil, List.map_cons, List.map_nil, mmem_msp hC (by omega)]
  rw [this _ (Nat.le_refl _)]
  unfold mem1
  rw [List.length_map]
/-- The paths go up. -/
def Up (C : List Nod) : Prop := ∀ i j, i < j → j < C.length → nlt (at_nod C i) (at_nod C j)
theorem TSet.up {C : List Nod} (h : TSet C) (ha : Asc C) : Up C := fun i j hij hj => by
  have h1 := asc_at ha (Nat.le_of_lt hij) hj
  rcases nlt_cases (at_nod C i) (at_nod C j) with q | q | q
  · exact q
  · exact absurd q (h.ok.dup i j hij hj)
  · exact absurd q h1
end Go.Xp
