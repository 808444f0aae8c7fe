/- Layer 14 (flatten): the members of a tree stand in order: plain theory. -/
import Derived.Test.YtknimfbagbkjfaaDoorCanI
set_option linter.unusedSimpArgs false
set_option linter.unusedVariables false
set_option linter.unusedSectionVars false
namespace Go.Xp

/-- The directories among the first k members. -/
def odk (M : List Mem) : Nat → List (List UInt8)
  | 0 => [[]]
  | k + 1 => if (at_mem M k).kind = 0 then kins (odk M k) (at_mem M k).path else odk M k
theorem odk_nil (M : List Mem) : ∀ k, [] ∈ odk M k
  | 0 => by simp [odk]
  | k + 1 => by
    unfold odk
    split
    · exact mem_kins.2 (.inl (odk_nil M k))
    · exact odk_nil M k
theorem odk_mem {M : List Mem} {j : Nat} (h0 : (at_mem M j).kind = 0) : ∀ {k : Nat}, j < k → (at_mem M j).path ∈ odk M k
  | k + 1, h => by
    unfold odk
    by_cases e : j = k
    · subst e; rw [if_pos h0]; exact mem_kins.2 (.inr rfl)
    · have ih := odk_mem h0 (k := k) (by omega)
      split
      · exact mem_kins.2 (.inl ih)
      · exact ih
section
variable {C : List Nod} {M : List Mem}
theorem om_msp (hM : M.map erm = mem1 C) {k : Nat} (h : k < C.length) : erm (at_mem M k) = msp C k := by
  rw [← at_erm, hM]
  unfold mem1 at_mem
  rw [List.getD_eq_getElem?_getD, List.getElem?_map, List.getElem?_range h]; rfl
theorem om_f (hM : M.map erm = mem1 C) {k : Nat} (h : k < C.length) : (at_mem M k).kind = (msp C k).kind ∧ (at_mem M k).path = (msp C k).path ∧ (at_mem M k).mode = (msp C k).mode ∧ (at_mem M k).target = (msp C k).target ∧ (at_mem M k).size = (msp C k).size ∧ (at_mem M k).data = (msp C k).data := by
  rw [← om_msp hM h]; exact ⟨rfl, rfl, rfl, rfl, rfl, rfl⟩
theorem om_path (hM : M.map erm = mem1 C) {k : Nat} (h : k < C.length) : (at_mem M k).path = (at_nod C k).path := (om_f hM h).2.1.trans msp_path
theorem om_len (hM : M.map erm = mem1 C) : M.length = C.length := by
  have := congrArg List.length hM
  simpa [mem1] using this
theorem up_ne (hu : Up C) {i j : Nat} (hi : i < C.length) (hj : j < C.length) (h : i ≠ j) : ¬ (at_nod C i).path = (at_nod C j).path := fun e => by
  have key : ∀ {x y : Nod}, x.path = y.path → ¬ nlt x y := fun {x y} e q => by rw [nlt_iff, e, less_irrefl] at q; cases q
  rcases Nat.lt_or_gt_of_ne h with q | q
  · exact key e (hu i j q hj)
  · exact key e.symm (hu j i q hi)
theorem ord_up (hu : Up C) (hM : M.map erm = mem1 C) {i : Nat} (h0 : 0 < i) (hi : i < C.length) : pcmp (at_mem M (i - 1)).path (at_mem M i).path = -1 := by
  rw [om_path hM (by omega), om_path hM hi]
  exact pcmp_lt (nlt_iff.1 (hu (i - 1) i (by omega) hi))
theorem par_lt {p : List UInt8} (h : ¬ pparent p = []) : Op.bytesLess (pparent p) p = true := by
  rcases par_cases p with ⟨h1, -⟩ | ⟨s, h1, -⟩
  · exact absurd h1 h
  · have hl : (pparent p).length < p.length := by
      have := congrArg List.length h1
      simp at this; omega
    refine less_short (fun k hk => ?_) hl
    have e : byt p k = byt (pparent p ++ ([47] ++ s)) k := by rw [← List.append_assoc, ← h1]
    rw [e]; unfold byt
    rw [List.getD_eq_getElem?_getD, List.getD_eq_getElem?_getD, List.getElem?_append_left hk]
theorem ord_par (hC : Cano C) (hM : M.map erm = mem1 C) {i : Nat} (hi : i < C.length) : pparent (at_mem M i).path ∈ odk M i := by
  rw [om_path hM hi]
  rcases hC.set.par _ (can_mem hi) with h | ⟨y, hy, h1, h2⟩
  · rw [h]; exact odk_nil M i
  · by_cases h : pparent (at_nod C i).path = []
    · rw [h]; exact odk_nil M i
    · obtain ⟨j, hj, rfl⟩ := mem_at hy
      have hji : j < i := by
        apply Decidable.byContradiction
        intro q
        have hl : nlt (at_nod C j) (at_nod C i) := nlt_iff.2 (by rw [h2]; exact par_lt h)
        by_cases e : i = j
        · subst e; rw [nlt_iff, less_irrefl] at hl; cases hl
        · exact nlt_nle (hC.up i j (by omega) hj) hl
      have hk : (at_mem M j).kind = 0 := by
        have e : (at_mem M j).kind = (msp C j).kind := (om_f hM hj).1
        rw [e, msp_nl (fun q => by have := q.1.1; omega), if_neg (by omega)]; exact h1
      have := odk_mem hk hji
      rw [om_path hM hj, h2] at this
      exact this
theorem fcheck_parts {k m z : Int} {p tg : List UInt8} (h : fcheck k p m tg z = 0) : pcheck p = 0 ∧ (0 ≤ m ∧ m ≤ 4095) := by
  unfold fcheck at h
  split at h
  · cases h
  · split at h
    · rename_i a; exact absurd h a
    · rename_i a
      split at h
      · cases h
      · rename_i b
        refine ⟨Classical.not_not.1 a, ?_⟩
        have : ¬ (m < 0 ∨ 4095 < m) := fun q => b (.inl q)
        omega
theorem fcheck_link {p tg : List UInt8} {m : Int} (hp : pcheck p = 0) (hm : 0 ≤ m ∧ m ≤ 4095) (ht : pcheck tg = 0) : fcheck 3 p m tg 0 = 0 := by
  unfold fcheck ftarget fsize
  rw [if_neg (by decide), if_neg (by simp [hp]), if_neg (by simp; omega), if_pos rfl, if_neg (by simp [ht]), if_neg (by decide), if_neg (by decide)]
theorem lk_first (hC : Cano C) {i : Nat} (hi : i < C.length) (h : Lk C i) : ∃ f, f < i ∧ (msp C i).target = (at_nod C f).path ∧ (at_nod C f).kind = 1 ∧ ¬ Lk C f ∧ (at_nod C f).mode = (at_nod C i).mode := by
  have hf : nfirst C (at_nod C i).cls < i := h.2
  have hc := nfirst_cls (l := C) (c := (at_nod C i).cls) (by omega)
  refine ⟨_, hf, by rw [msp_lk h], hC.set.cfl _ (can_mem (by omega)) (by rw [hc]; exact h.1.2), fun q => ?_, ?_⟩
  · have := q.2; rw [hc] at this; omega
  · exact (hC.set.agr _ (can_mem (by omega)) _ (can_mem hi) hc (by have := h.1.2; omega)).1
theorem ord_chk (hC : Cano C) (hM : M.map erm = mem1 C) {i : Nat} (hi : i < C.length) : fcheck (at_mem M i).kind (at_mem M i).path (at_mem M i).mode (at_mem M i).target (at_mem M i).size = 0 := by
  have e := om_f hM hi
  have e1 : (at_mem M i).kind = (msp C i).kind := e.1
  have e2 : (at_mem M i).path = (msp C i).path := e.2.1
  have e3 : (at_mem M i).mode = (msp C i).mode := e.2.2.1
  have e4 : (at_mem M i).target = (msp C i).target := e.2.2.2.1
  have e5 : (at_mem M i).size = (msp C i).size := e.2.2.2.2.1
  rw [e1, e2, e3, e4, e5]
  have hn := (tone_parts (hC.set.one _ (can_mem hi))).2.1
  by_cases h : Lk C i
  · obtain ⟨f, h1, h2, h3, h4, h5⟩ := lk_first hC hi h
    have hp := fcheck_parts hn
    have hq := fcheck_parts (tone_parts (hC.set.one _ (can_mem (show f < C.length by omega)))).2.1
    rw [h2, msp_lk h]
    exact fcheck_link hp.1 hp.2 hq.1
  · rw [msp_nl h]
    unfold nfc nsize at hn
    split
    · rename_i hk; rw [if_pos hk] at hn; exact hn
    · rename_i hk; rw [if_neg hk] at hn; exact hn
theorem ord_len {l : List Nod} {B : Nat} (hz : terr l = 0) (hM : M.map erm = mem1 (cno l)) (hs : ∀ x ∈ l, x.path.length ≤ B ∧ x.target.length ≤ B ∧ x.data.length ≤ B) {i : Nat} (hi : i < M.length) : (at_mem M i).path.length ≤ B ∧ (at_mem M i).target.length ≤ B ∧ (at_mem M i).data.length ≤ B ∧ 0 ≤ (at_mem M i).size ∧ (at_mem M i).size ≤ B := by
  have hC := Cano.of (tok_of hz).set
  rw [om_len hM] at hi
  have ha := cno_all (P := fun p t d => p.length ≤ B ∧ t.length ≤ B ∧ d.length ≤ B) hs
  have h1 := ha _ (can_mem hi)
  obtain ⟨e1, e2, e3, e4, e5, e6⟩ := om_f hM hi
  rw [e2, e4, e5, e6, msp_path]
  by_cases h : Lk (cno l) i
  · obtain ⟨f, h2, h3, h4, h5, h6⟩ := lk_first hC hi h
    rw [h3, msp_lk h]
    exact ⟨h1.1, (ha _ (can_mem (show f < (cno l).length by omega))).1, Nat.zero_le _, Int.le_refl _, by simp⟩
  · rw [msp_nl h]
    split
    · exact ⟨h1.1, h1.2.1, h1.2.2, by simp, by have := h1.2.2; simp; omega⟩
    · exact ⟨h1.1, h1.2.1, by simp, by simp, by simp⟩
end
end Go.Xp
