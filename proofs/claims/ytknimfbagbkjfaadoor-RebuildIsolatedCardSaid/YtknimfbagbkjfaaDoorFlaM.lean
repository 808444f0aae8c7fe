/- Layer 14 (flatten): trees with the same members are the same: plain. -/
import Derived.Test.YtknimfbagbkjfaaDoorFlaL
set_option linter.unusedSimpArgs false
set_option linter.unusedVariables false
set_option linter.unusedSectionVars false
namespace Go.Xp

theorem tone_parts {x : Nod} (h : tone x = 0) : (0 ≤ x.kind ∧ x.kind ≤ 2) ∧ nfc x = 0 ∧ (¬ x.kind = 1 → x.data = []) ∧ 0 ≤ x.cls ∧ (¬ x.kind = 1 → x.cls = 0) := by
  unfold tone at h
  split at h
  · cases h
  · rename_i a1
    split at h
    · rename_i a; exact absurd h a
    · rename_i a2
      split at h
      · cases h
      · rename_i a3
        split at h
        · cases h
        · rename_i a4
          refine ⟨by omega, Classical.not_not.1 a2, fun hk => ?_, ?_, fun hk => ?_⟩
          · exact List.eq_nil_of_length_eq_zero (by
              have : ¬ 0 < x.data.length := fun q => a3 ⟨hk, q⟩
              omega)
          · have : ¬ x.cls < 0 := fun q => a4 (.inl q)
            omega
          · exact Classical.not_not.1 (fun q => a4 (.inr ⟨hk, q⟩))
/-- A canonical tree. -/
structure Cano (C : List Nod) : Prop where
  set : TSet C
  up : Up C
  er : C.map Go.Xp.er = C
  re : renum (fun c => (ccl C c : Int)) C [] = C
theorem Cano.of {l : List Nod} (h : TSet l) : Cano (cno l) := by
  refine ⟨h.cno, h.cno.up (cno_asc l), cno_er l, ?_⟩
  have := cno_idem l
  rw [cno_ccl (cno l), cno_er, srt_self (cno_asc l)] at this
  exact this
theorem Cano.two {C : List Nod} (h : Cano C) {i : Nat} (hi : i < C.length) (hc : 0 < (at_nod C i).cls) : 2 ≤ ccl C (at_nod C i).cls := by
  have e := h.re
  rw [renum_map] at e
  have e2 := congrArg (fun L => at_nod L i) e
  have e3 : at_nod (C.map fun x => wcl x (clv (fun c => (ccl C c : Int)) (renM (fun c => (ccl C c : Int)) C []) x)) i = wcl (at_nod C i) (clv (fun c => (ccl C c : Int)) (renM (fun c => (ccl C c : Int)) C []) (at_nod C i)) := by
    unfold at_nod
    rw [List.getD_eq_getElem?_getD, List.getD_eq_getElem?_getD, List.getElem?_map, List.getElem?_eq_getElem hi]; rfl
  have e4 := congrArg Nod.cls (e3.symm.trans e2)
  have e5 : clv (fun c => (ccl C c : Int)) (renM (fun c => (ccl C c : Int)) C []) (at_nod C i) = (at_nod C i).cls := e4
  unfold clv at e5
  split at e5
  · omega
  · rename_i q
    have : ¬ ((ccl C (at_nod C i).cls : Int) < 2) := fun r => q (.inr r)
    omega
theorem ccl_other {c : Int} : ∀ {C : List Nod}, 2 ≤ ccl C c → ∀ i, ∃ j, j < C.length ∧ j ≠ i ∧ (at_nod C j).cls = c
  | [], h, i => by simp [ccl] at h
  | x :: C, h, i => by
    have hc : ccl (x :: C) c = ccl C c + if x.cls = c then 1 else 0 := by
      unfold ccl; rw [List.countP_cons]; simp
    have key : ∀ {C : List Nod}, 1 ≤ ccl C c → ∃ j, j < C.length ∧ (at_nod C j).cls = c := fun {C} h1 => by
      unfold ccl at h1
      obtain ⟨y, hy, e⟩ := List.countP_pos_iff.1 h1
      obtain ⟨k, hk, rfl⟩ := mem_at hy
      exact ⟨k, hk, of_decide_eq_true e⟩
    cases i with
    | zero =>
      obtain ⟨j, hj, e⟩ := key (C := C) (by split at hc <;> omega)
      exact ⟨j + 1, by simp; omega, by omega, by rw [nod_cons_succ]; exact e⟩
    | succ i =>
      by_cases hx : x.cls = c
      · exact ⟨0, by simp, by omega, hx⟩
      · rw [if_neg hx] at hc
        obtain ⟨j, hj, hne, e⟩ := ccl_other (c := c) (C := C) (by omega) i
        exact ⟨j + 1, by simp; omega, by omega, by rw [nod_cons_succ]; exact e⟩
/-- Node i is a link. -/
def Lk (C : List Nod) (i : Nat) : Prop := ((at_nod C i).kind = 1 ∧ 0 < (at_nod C i).cls) ∧ nfirst C (at_nod C i).cls < i
theorem fcheck_tg {k m z : Int} {p tg : List UInt8} (h : fcheck k p m tg z = 0) : ftarget k tg = 0 := by
  unfold fcheck at h
  split at h
  · cases h
  · split at h
    · rename_i a; exact absurd h a
    · split at h
      · cases h
      · split at h
        · rename_i a; exact absurd h a
        · rename_i a; exact Classical.not_not.1 a
theorem ftarget_file {tg : List UInt8} (h : ftarget 1 tg = 0) : tg = [] := by
  unfold ftarget at h
  rw [if_neg (by decide), if_neg (by decide)] at h
  split at h
  · cases h
  · rename_i q; exact Classical.not_not.1 q
theorem file_target {x : Nod} (h : tone x = 0) (hk : x.kind = 1) : x.target = [] := by
  have := fcheck_tg (tone_parts h).2.1
  rw [hk] at this
  exact ftarget_file this
section
variable {A B : List Nod}
theorem msp_kind (hA : Cano A) {i : Nat} (hi : i < A.length) : (msp A i).kind = 3 ↔ Lk A i := by
  have hk := (tone_parts (hA.set.one _ (can_mem hi))).1
  unfold msp Lk
  split
  · rename_i q; exact ⟨fun _ => q, fun _ => rfl⟩
  · rename_i q
    split
    · rename_i q1; exact ⟨fun r => by simp only [q1] at r; omega, fun r => absurd r q⟩
    · exact ⟨fun r => by simp only at r; omega, fun r => absurd r q⟩
theorem msp_lk {C : List Nod} {i : Nat} (h : Lk C i) : msp C i = ⟨3, (at_nod C i).path, (at_nod C i).mode, (at_nod C (nfirst C (at_nod C i).cls)).path, 0, .slice none 0 0, []⟩ := if_pos h
theorem msp_nl {C : List Nod} {i : Nat} (h : ¬ Lk C i) : msp C i = if (at_nod C i).kind = 1 then ⟨(at_nod C i).kind, (at_nod C i).path, (at_nod C i).mode, (at_nod C i).target, ((at_nod C i).data.length : Int), .slice none 0 0, (at_nod C i).data⟩
  else ⟨(at_nod C i).kind, (at_nod C i).path, (at_nod C i).mode, (at_nod C i).target, 0, .slice none 0 0, []⟩ := if_neg h
theorem msp_path {i : Nat} : (msp A i).path = (at_nod A i).path := by
  unfold msp
  split
  · rfl
  · split <;> rfl
theorem msp_mode {i : Nat} : (msp A i).mode = (at_nod A i).mode := by
  unfold msp
  split
  · rfl
  · split <;> rfl
structure Eqm (A B : List Nod) : Prop where
  a : Cano A
  b : Cano B
  len : A.length = B.length
  mem : ∀ i, i < A.length → msp A i = msp B i
theorem Eqm.symm (h : Eqm A B) : Eqm B A := ⟨h.b, h.a, h.len.symm, fun i hi => (h.mem i (by rw [h.len]; exact hi)).symm⟩
theorem Eqm.lk (h : Eqm A B) {i : Nat} (hi : i < A.length) : Lk A i ↔ Lk B i := by
  rw [← msp_kind h.a hi, ← msp_kind h.b (by rw [← h.len]; exact hi), h.mem i hi]
theorem Eqm.path (h : Eqm A B) {i : Nat} (hi : i < A.length) : (at_nod A i).path = (at_nod B i).path := by rw [← msp_path, ← msp_path, h.mem i hi]
theorem Eqm.first (h : Eqm A B) {i : Nat} (hi : i < A.length) (hl : Lk A i) : nfirst A (at_nod A i).cls = nfirst B (at_nod B i).cls := by
  have hl2 := (h.lk hi).1 hl
  have e := congrArg Mem.target (h.mem i hi)
  rw [msp_lk hl, msp_lk hl2] at e
  have h1 := hl.2
  have h2 := hl2.2
  have e2 : (at_nod A (nfirst A (at_nod A i).cls)).path = (at_nod A (nfirst B (at_nod B i).cls)).path := by
    rw [h.path (i := nfirst B (at_nod B i).cls) (by omega)]; exact e
  rcases Nat.lt_trichotomy (nfirst A (at_nod A i).cls) (nfirst B (at_nod B i).cls) with q | q | q
  · exact absurd e2 (h.a.set.ok.dup _ _ q (by omega))
  · exact q
  · exact absurd e2.symm (h.a.set.ok.dup _ _ q (by omega))
theorem Lk.not_first (hA : Cano A) {i : Nat} (hi : i < A.length) : ¬ Lk A (nfirst A (at_nod A i).cls) := fun q => by
  have h1 := nfirst_of (l := A) hi
  have h2 := nfirst_cls (l := A) (c := (at_nod A i).cls) (by omega)
  have := q.2
  rw [h2] at this
  exact Nat.lt_irrefl _ this
theorem Eqm.plain (h : Eqm A B) {i : Nat} (hi : i < A.length) (hl : ¬ Lk A i) : (at_nod A i).kind = (at_nod B i).kind ∧ (at_nod A i).target = (at_nod B i).target ∧ (at_nod A i).data = (at_nod B i).data := by
  have hl2 : ¬ Lk B i := fun q => hl ((h.lk hi).2 q)
  have hiB : i < B.length := by rw [← h.len]; exact hi
  have e := h.mem i hi
  rw [msp_nl hl, msp_nl hl2] at e
  have pA := tone_parts (h.a.set.one _ (can_mem hi))
  have pB := tone_parts (h.b.set.one _ (can_mem hiB))
  by_cases kA : (at_nod A i).kind = 1
  · by_cases kB : (at_nod B i).kind = 1
    · rw [if_pos kA, if_pos kB] at e
      injection e with e1 e2 e3 e4 e5 e6 e7
      exact ⟨e1, e4, e7⟩
    · rw [if_pos kA, if_neg kB] at e
      injection e with e1 e2 e3 e4 e5 e6 e7
      exact absurd (e1.symm.trans kA) kB
  · by_cases kB : (at_nod B i).kind = 1
    · rw [if_neg kA, if_pos kB] at e
      injection e with e1 e2 e3 e4 e5 e6 e7
      exact absurd (e1.trans kB) kA
    · rw [if_neg kA, if_neg kB] at e
      injection e with e1 e2 e3 e4 e5 e6 e7
      exact ⟨e1, e4, by rw [pA.2.2.1 kA, pB.2.2.1 kB]⟩
theorem Eqm.rest (h : Eqm A B) {i : Nat} (hi : i < A.length) : (at_nod A i).kind = (at_nod B i).kind ∧ (at_nod A i).target = (at_nod B i).target ∧ (at_nod A i).data = (at_nod B i).data := by
  by_cases hl : Lk A i
  · have hiB : i < B.length := by rw [← h.len]; exact hi
    have hl2 := (h.lk hi).1 hl
    have hf := h.first hi hl
    have f1 := hl.2
    have f2 := hl2.2
    have p := h.plain (i := nfirst A (at_nod A i).cls) (by omega) (Lk.not_first h.a hi)
    have a1 := (h.a.set.ok.agr i (nfirst A (at_nod A i).cls) hi (by omega) (nfirst_cls (by omega)).symm (by rw [nfirst_cls (by omega)]; have := hl.1.2; omega)).2
    have b1 := (h.b.set.ok.agr i (nfirst B (at_nod B i).cls) hiB (by omega) (nfirst_cls (by omega)).symm (by rw [nfirst_cls (by omega)]; have := hl2.1.2; omega)).2
    refine ⟨by rw [hl.1.1, hl2.1.1], by rw [file_target (h.a.set.one _ (can_mem hi)) hl.1.1, file_target (h.b.set.one _ (can_mem hiB)) hl2.1.1], ?_⟩
    rw [a1, p.2.2, hf, ← b1]
  · exact h.plain hi hl
/-- A node alone in the one tree is alone in the other. -/
theorem Eqm.zero (h : Eqm A B) {i : Nat} (hi : i < A.length) (hc : ¬ 0 < (at_nod A i).cls) : ¬ 0 < (at_nod B i).cls := fun hb => by
  have hiB : i < B.length := by rw [← h.len]; exact hi
  have hkB : (at_nod B i).kind = 1 := h.b.set.cfl _ (can_mem hiB) hb
  by_cases hf : nfirst B (at_nod B i).cls < i
  · exact hc ((h.lk hi).2 ⟨⟨hkB, hb⟩, hf⟩).1.2
  · have hfi : nfirst B (at_nod B i).cls = i := by have := nfirst_of (l := B) hiB; omega
    obtain ⟨j, hj, hne, e⟩ := ccl_other (C := B) (h.b.two hiB hb) i
    have hij : i < j := by
      rcases Nat.lt_trichotomy i j with q | q | q
      · exact q
      · exact absurd q.symm hne
      · have : ¬ (at_nod B j).cls = (at_nod B i).cls := nfirst_ne (by omega)
        exact absurd e this
    have hjA : j < A.length := by rw [h.len]; exact hj
    have hlj : Lk B j := ⟨⟨h.b.set.cfl _ (can_mem hj) (by omega), by omega⟩, by rw [e]; omega⟩
    have hlA := (h.lk hjA).2 hlj
    have hff := h.first hjA hlA
    rw [e, hfi] at hff
    have := nfirst_cls (l := A) (c := (at_nod A j).cls) (by have := hlA.2; omega)
    rw [hff] at this
    have h2 := hlA.1.2
    omega
theorem Eqm.eq (h : Eqm A B) : A = B := by
  have hcA : ∀ i, i < A.length → 0 ≤ (at_nod A i).cls := fun i hi => (tone_parts (h.a.set.one _ (can_mem hi))).2.2.2.1
  have hcB : ∀ i, i < B.length → 0 ≤ (at_nod B i).cls := fun i hi => (tone_parts (h.b.set.one _ (can_mem hi))).2.2.2.1
  have hφ : ∀ i, i < A.length → (at_nod B i).cls = if 0 < (at_nod A i).cls then (at_nod B (nfirst A (at_nod A i).cls)).cls else 0 := fun i hi => by
    have hiB : i < B.length := by rw [← h.len]; exact hi
    split
    · rename_i hc
      by_cases hf : nfirst A (at_nod A i).cls < i
      · have hl : Lk A i := ⟨⟨h.a.set.cfl _ (can_mem hi) hc, hc⟩, hf⟩
        have hl2 := (h.lk hi).1 hl
        rw [h.first hi hl]
        exact (nfirst_cls (by have := hl2.2; omega)).symm
      · rw [show nfirst A (at_nod A i).cls = i by have := nfirst_of (l := A) hi; omega]
    · rename_i hc
      have := h.zero hi hc
      have := hcB i hiB
      omega
  have hpos : ∀ i, i < A.length → 0 < (at_nod A i).cls → 0 < (at_nod B i).cls := fun i hi hc => by
    apply Decidable.byContradiction
    intro q
    exact h.symm.zero (by rw [← h.len]; exact hi) q hc
  have eB : B = A.map fun x => wcl x ((fun c => if 0 < c then (at_nod B (nfirst A c)).cls else 0) x.cls) := by
    apply List.ext_getElem
    · rw [List.length_map, h.len]
    · intro i q1 q2
      have hi : i < A.length := by rw [h.len]; exact q1
      rw [List.getElem_map, ← nod_eq hi, ← nod_eq q1]
      have r := h.rest hi
      have e1 : at_nod B i = er (at_nod B i) := by rw [← at_er, h.b.er]
      have e2 : at_nod A i = er (at_nod A i) := by rw [← at_er, h.a.er]
      have e3 := hφ i hi
      have e4 := h.path hi
      have e5 : (at_nod A i).mode = (at_nod B i).mode := by rw [← msp_mode, ← msp_mode, h.mem i hi]
      rw [e1]
      show _ = wcl (at_nod A i) (if 0 < (at_nod A i).cls then (at_nod B (nfirst A (at_nod A i).cls)).cls else 0)
      rw [← e3, e2]
      unfold er wcl
      simp only
      rw [r.1, r.2.1, r.2.2, e4, e5]
  have hmA : ∀ x ∈ A, ∃ i, i < A.length ∧ at_nod A i = x := fun x hx => mem_at hx
  have key := renum_ren (W := A) (φ := fun c => if 0 < c then (at_nod B (nfirst A c)).cls else 0) (cnt := fun c => (ccl A c : Int)) (cnt' := fun c => (ccl B c : Int)) (fun x hx => ?_) (fun x hx y hy hrx hry e => ?_) A [] [] (fun x hx => hx) rfl (fun p hp => by cases hp) (fun p hp => by cases hp) (fun x hx _ => rfl)
  · rw [← eB, h.b.re, h.a.re] at key
    exact key.symm
  · obtain ⟨i, hi, rfl⟩ := hmA x hx
    have hiB : i < B.length := by rw [← h.len]; exact hi
    show ((if 0 < (at_nod A i).cls then (at_nod B (nfirst A (at_nod A i).cls)).cls else 0) ≤ 0 ∨ ((ccl B (if 0 < (at_nod A i).cls then (at_nod B (nfirst A (at_nod A i).cls)).cls else 0) : Nat) : Int) < 2) ↔ _
    rw [← hφ i hi]
    by_cases hc : 0 < (at_nod A i).cls
    · have h1 := h.a.two hi hc
      have hb := hpos i hi hc
      have h2 := h.b.two hiB hb
      constructor
      · rintro (q | q)
        · omega
        · omega
      · rintro (q | q)
        · omega
        · have q' : (ccl A (at_nod A i).cls : Int) < 2 := q
          omega
    · have := hφ i hi
      rw [if_neg hc] at this
      exact ⟨fun _ => .inl (by omega), fun _ => .inl (by omega)⟩
  · obtain ⟨i, hi, rfl⟩ := hmA x hx
    obtain ⟨j, hj, rfl⟩ := hmA y hy
    have ci : 0 < (at_nod A i).cls := by
      apply Decidable.byContradiction; intro q; exact hrx (.inl (by omega))
    have cj : 0 < (at_nod A j).cls := by
      apply Decidable.byContradiction; intro q; exact hry (.inl (by omega))
    simp only [if_pos ci, if_pos cj] at e
    have fi := nfirst_of (l := A) hi
    have fj := nfirst_of (l := A) hj
    have gi := nfirst_cls (l := A) (c := (at_nod A i).cls) (by omega)
    have gj := nfirst_cls (l := A) (c := (at_nod A j).cls) (by omega)
    have key2 : ∀ {i j : Nat}, i < A.length → j < A.length → 0 < (at_nod A j).cls → (at_nod B (nfirst A (at_nod A i).cls)).cls = (at_nod B (nfirst A (at_nod A j).cls)).cls → ¬ nfirst A (at_nod A i).cls < nfirst A (at_nod A j).cls := fun {i j} hi hj cj e q => by
      have fj := nfirst_of (l := A) hj
      have gj := nfirst_cls (l := A) (c := (at_nod A j).cls) (by omega)
      have hfA : nfirst A (at_nod A j).cls < A.length := by omega
      have hb : 0 < (at_nod B (nfirst A (at_nod A j).cls)).cls := hpos _ hfA (by rw [gj]; exact cj)
      have hlB : Lk B (nfirst A (at_nod A j).cls) := ⟨⟨h.b.set.cfl _ (can_mem (by rw [← h.len]; exact hfA)) hb, hb⟩, by
        have : nfirst B (at_nod B (nfirst A (at_nod A i).cls)).cls ≤ nfirst A (at_nod A i).cls := nfirst_of (by rw [← h.len]; omega)
        rw [← e]; omega⟩
      exact Lk.not_first h.a hj ((h.lk hfA).2 hlB)
    have n1 := key2 hi hj cj e
    have n2 := key2 hj hi ci e.symm
    have : nfirst A (at_nod A i).cls = nfirst A (at_nod A j).cls := by omega
    rw [← gi, this, gj]
end
theorem mem1_inj {A B : List Nod} (hA : Cano A) (hB : Cano B) (h : mem1 A = mem1 B) : A = B := by
  have hl : A.length = B.length := by
    have := congrArg List.length h
    unfold mem1 at this; simpa using this
  refine Eqm.eq ⟨hA, hB, hl, fun i hi => ?_⟩
  have := congrArg (fun L => L[i]?) h
  unfold mem1 at this
  simp only [List.getElem?_map, List.getElem?_range hi, List.getElem?_range (show i < B.length by omega), Option.map_some, Option.some.injEq] at this
  exact this
end Go.Xp
