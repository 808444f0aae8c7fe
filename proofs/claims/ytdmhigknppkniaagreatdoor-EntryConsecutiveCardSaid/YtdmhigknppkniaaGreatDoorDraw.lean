/- Regions that draw their order, taken in the order of the text: every operation leaves what stood as it was and yields a value of which something lasting is known. -/
import Derived.Test.YtdmhigknppkniaaGreatDoorRow
import Derived.StillTail
set_option linter.unusedSimpArgs false
set_option linter.unusedVariables false
namespace Go.Xp

abbrev Pd := Heap → Value → Prop
def lkp : List (Nat × Pd) → Nat → Pd
  | [], _ => fun _ _ => False
  | (j, p) :: r, i => bif Nat.beq j i then p else lkp r i
theorem lkp_self (i : Nat) (p : Pd) (r : List (Nat × Pd)) : lkp ((i, p) :: r) i = p := by simp [lkp]
/-- Operation 'j' comes before operation 'i' in every order. -/
def ancB (ops : Array Oper) : Nat → Nat → Nat → Bool
  | 0, _, _ => false
  | f + 1, i, j => match ops[i]? with
    | some o => (o.after.any fun x => Region.binds .any x && Nat.beq x.on j) || (o.after.any fun x => Region.binds .any x && ancB ops f x.on j)
    | none => false
def dstIs (ops : Array Oper) (j d : Nat) : Bool := match ops[j]? with
  | some o => match o.dst with
    | some d' => Nat.beq d' d
    | none => false
  | none => false
def needB (ops : Array Oper) (i : Nat) (need : List (Nat × Nat)) : Bool := need.all fun x => ancB ops 2 i x.1 && dstIs ops x.1 x.2
/-- The text is one of the orders, no two operations write one slot, and none writes a slot of 'e0'. -/
def persB (n : Nat) (ops : Array Oper) (e0 : Env) : Bool :=
  (List.range ops.size).all fun i => match ops[i]? with
    | some o => (o.after.all fun x => !Region.binds .any x || Nat.blt x.on i) &&
      (match o.dst with
        | some d => Nat.blt d n && (List.range ops.size).all (fun j => Nat.beq i j || !dstIs ops j d) && e0.all (fun x => !Nat.beq x.1 d)
        | none => true)
    | none => false

def Stp (σ : Std) (P : Program) (ops : Array Oper) (n : Nat) (e : Env) (h : Heap) (o : Oper) (R : Value → Heap → Prop) : Prop :=
  ∀ w a, std w = σ → w.heap = h → EOk n e a → ∀ (K : Act → World → Prop) (Q : Exit → Act → World → Prop), (∀ v w', std w' = σ → R v w'.heap → K (a.put o.dst v) w') →
    if Region.wanted o (yielded ops a.tmps) then o.wp P a w K Q else K (a.put o.dst undef) w
def Needs (h : Heap) (ps : List (Nat × Pd)) : List (Nat × Nat) → Env → (Env → Prop) → Prop
  | [], e, K => K e
  | (j, d) :: r, e, K => ∀ v, lkp ps j h v → Needs h ps r ((d, v) :: e) K

/-- What is known of the slots once the operations that 'S' names have come up. -/
def Hld (ops : Array Oper) (n : Nat) (e0 : Env) (ps : List (Nat × Pd)) (S : Nat → Prop) (h : Heap) (a : Act) : Prop :=
  EOk n e0 a ∧ ∀ j d, S j → dstIs ops j d = true → ∃ v, a.tmps[d]? = some v ∧ lkp ps j h v
theorem needs_of {n : Nat} {ps : List (Nat × Pd)} {h : Heap} {a : Act} {K : Env → Prop} :
    ∀ (need : List (Nat × Nat)) (e : Env), EOk n e a → (∀ x ∈ need, ∃ v, a.tmps[x.2]? = some v ∧ lkp ps x.1 h v) → Needs h ps need e K → ∃ e', EOk n e' a ∧ K e'
  | [], e, he, _, k => ⟨e, he, k⟩
  | (j, d) :: r, e, he, hn, k => by
    obtain ⟨v, hv, hp⟩ := hn (j, d) (by simp)
    refine needs_of r ((d, v) :: e) ⟨he.1, he.2.1, fun i u hi => ?_⟩ (fun x hx => hn x (by simp [hx])) (k v hp)
    simp only [lk] at hi
    cases hb : Nat.beq d i with
    | true => rw [hb] at hi; simp only [cond_true, Option.some.injEq] at hi; rw [← Nat.eq_of_beq_eq_true hb, ← hi]; exact hv
    | false => rw [hb] at hi; exact he.2.2 i u hi

/-- Operation 'i' does its part. -/
def Good (σ : Std) (P : Program) (ops : Array Oper) (n : Nat) (e0 : Env) (h0 : Heap) (ps : List (Nat × Pd)) (i : Nat) (p : Pd) : Prop :=
  ∀ o, ops[i]? = some o → (∀ h h' v, Ext h h' → p h v → p h' v) ∧ ∀ h, Ext h0 h → ∀ w a, std w = σ → w.heap = h → EOk n e0 a → (∀ j d, ancB ops 2 i j = true → dstIs ops j d = true → ∃ v, a.tmps[d]? = some v ∧ lkp ps j h v) →
    ∀ (K : Act → World → Prop) (Q : Exit → Act → World → Prop), (∀ v w', std w' = σ → Ext h w'.heap → p w'.heap v → K (a.put o.dst v) w') →
      if Region.wanted o (yielded ops a.tmps) then o.wp P a w K Q else K (a.put o.dst undef) w
def Goods (σ : Std) (P : Program) (ops : Array Oper) (n : Nat) (e0 : Env) (h0 : Heap) : List (Nat × Pd) → Prop
  | [] => True
  | (i, p) :: r => i = r.length ∧ Good σ P ops n e0 h0 r i p ∧ Goods σ P ops n e0 h0 r
def LP (σ : Std) (P : Program) (ops : Array Oper) (n : Nat) (Q : Exit → Act → World → Prop) (e0 : Env) (h0 : Heap) (ps : List (Nat × Pd)) : Prop :=
  Goods σ P ops n e0 h0 ps → ∀ w a, std w = σ → w.heap = h0 → EOk n e0 a → wpAny P .any ops Q ops.size (Array.replicate ops.size false) a w

section
variable {σ : Std} {P : Program} {n : Nat} {Q : Exit → Act → World → Prop} {e e0 : Env} {h h0 : Heap} {ops : Array Oper} {ps : List (Nat × Pd)}

theorem lkp_ne {i j : Nat} {p : Pd} {r : List (Nat × Pd)} (h : i ≠ j) : lkp ((i, p) :: r) j = lkp r j := by
  have : Nat.beq i j = false := by
    cases hb : Nat.beq i j with
    | false => rfl
    | true => exact absurd (Nat.eq_of_beq_eq_true hb) h
  simp [lkp, this]
theorem goods_ext {r s : List (Nat × Pd)} (hr : ∀ j, j < r.length → lkp s j = lkp r j) {i : Nat} (hi : ∀ j, ancB ops 2 i j = true → j < r.length) {p : Pd} (g : Good σ P ops n e0 h0 r i p) : Good σ P ops n e0 h0 s i p := by
  intro o ho
  obtain ⟨g1, g2⟩ := g o ho
  refine ⟨g1, fun h hx w a hs hh he hd K Q hK => g2 h hx w a hs hh he (fun j d hj hjd => ?_) K Q hK⟩
  obtain ⟨v, hv, hp⟩ := hd j d hj hjd
  exact ⟨v, hv, by rw [← hr j (hi j hj)]; exact hp⟩
theorem anc_edge {o : Oper} {f j : Nat} (h : ((o.after.any fun x => Region.binds .any x && Nat.beq x.on j) || (o.after.any fun x => Region.binds .any x && ancB ops f x.on j)) = true) : ∃ x ∈ o.after, Region.binds .any x = true ∧ (Nat.beq x.on j = true ∨ ancB ops f x.on j = true) := by
  rw [Bool.or_eq_true] at h
  rcases h with h | h
  · obtain ⟨x, hx, hb⟩ := Array.any_eq_true'.1 h
    simp only [Bool.and_eq_true] at hb
    exact ⟨x, hx, hb.1, .inl hb.2⟩
  · obtain ⟨x, hx, hb⟩ := Array.any_eq_true'.1 h
    simp only [Bool.and_eq_true] at hb
    exact ⟨x, hx, hb.1, .inr hb.2⟩
theorem anc_lt (hB : persB n ops e0 = true) : ∀ (f i j : Nat), ancB ops f i j = true → j < i
  | 0, _, _, h => by cases h
  | f + 1, i, j, h => by
    simp only [ancB] at h
    cases ho : ops[i]? with
    | none => rw [ho] at h; cases h
    | some o =>
      rw [ho] at h
      simp only at h
      obtain ⟨x, hx, hb⟩ := anc_edge h
      have hi : i < ops.size := (Array.getElem?_eq_some_iff.1 ho).1
      have h1 := List.all_eq_true.1 hB i (List.mem_range.2 hi)
      rw [ho] at h1
      simp only [Bool.and_eq_true] at h1
      have h2 := Array.all_eq_true_iff_forall_mem.1 h1.1 x hx
      rw [hb.1] at h2
      have h3 : x.on < i := by simpa [Nat.blt_eq] using h2
      rcases hb.2 with h4 | h4
      · rw [← Nat.eq_of_beq_eq_true h4]; exact h3
      · exact Nat.lt_trans (anc_lt hB f x.on j h4) h3
theorem goods_at (hB : persB n ops e0 = true) : ∀ {ps : List (Nat × Pd)}, Goods σ P ops n e0 h0 ps → ∀ i, i < ps.length → Good σ P ops n e0 h0 ps i (lkp ps i)
  | [], _, i, hi => by simp at hi
  | (k, p) :: r, ⟨hk, g, gs⟩, i, hi => by
    subst hk
    have hr : ∀ j, j < r.length → lkp ((r.length, p) :: r) j = lkp r j := fun j hj => lkp_ne (by omega)
    rcases Nat.lt_or_ge i r.length with h1 | h1
    · rw [hr i h1]
      exact goods_ext hr (fun j hj => by have := anc_lt hB _ _ _ hj; omega) (goods_at hB gs i h1)
    · have : i = r.length := by simp at hi; omega
      subst this
      rw [lkp_self]
      exact goods_ext hr (fun j hj => anc_lt hB _ _ _ hj) g

/-- The invariant of the drawn run. -/
structure PInv (σ : Std) (ops : Array Oper) (n : Nat) (e0 : Env) (h0 : Heap) (ps : List (Nat × Pd)) (listed : Array Bool) (a : Act) (w : World) : Prop where
  std : std w = σ
  ext : Ext h0 w.heap
  size : listed.size = ops.size
  down : ∀ i o, ops[i]? = some o → listed.getD i true = true → ∀ x ∈ o.after, Region.binds .any x = true → listed.getD x.on false = true
  hld : Hld ops n e0 ps (fun j => listed.getD j false = true) w.heap a
theorem getD_tf {l : Array Bool} {i : Nat} (hi : i < l.size) : l.getD i true = l.getD i false := by simp [hi]
theorem anc_listed {listed : Array Bool} (hs : listed.size = ops.size) (down : ∀ i o, ops[i]? = some o → listed.getD i true = true → ∀ x ∈ o.after, Region.binds .any x = true → listed.getD x.on false = true) :
    ∀ (f i j : Nat), (∀ o, ops[i]? = some o → ∀ x ∈ o.after, Region.binds .any x = true → listed.getD x.on false = true) → ancB ops f i j = true → listed.getD j false = true
  | 0, _, _, _, h => by cases h
  | f + 1, i, j, hi, h => by
    simp only [ancB] at h
    cases ho : ops[i]? with
    | none => rw [ho] at h; cases h
    | some o =>
      rw [ho] at h
      simp only at h
      obtain ⟨x, hx, hb⟩ := anc_edge h
      have hl := hi o ho x hx hb.1
      rcases hb.2 with h4 | h4
      · rw [← Nat.eq_of_beq_eq_true h4]; exact hl
      · refine anc_listed hs down f x.on j (fun o' ho' => down x.on o' ho' ?_) h4
        have : x.on < listed.size := by
          apply Classical.byContradiction
          intro hn
          rw [Array.getD_eq_getD_getElem?, Array.getElem?_eq_none (by omega)] at hl
          cases hl
        rw [getD_tf this]; exact hl
theorem set_count : ∀ (l : List Bool) (i : Nat), l[i]? = some false → ((l.set i true).filter id).length = (l.filter id).length + 1
  | [], i, h => by simp at h
  | b :: l, 0, h => by simp at h; subst h; simp
  | b :: l, i + 1, h => by
    have h' : l[i]? = some false := by simpa using h
    have := set_count l i h'
    cases b <;> simp [this]
theorem lk_mem : ∀ (e : Env) (s : Nat) (u : Value), lk e s = some u → ∃ u', (s, u') ∈ e
  | [], _, _, h => by cases h
  | (j, u') :: r, s, u, h => by
    simp only [lk] at h
    cases hb : Nat.beq j s with
    | true => exact ⟨u', by rw [← Nat.eq_of_beq_eq_true hb]; simp⟩
    | false =>
      rw [hb] at h
      obtain ⟨u2, h2⟩ := lk_mem r s u h
      exact ⟨u2, by simp [h2]⟩
theorem dst_of {j d : Nat} (h : dstIs ops j d = true) : ∃ o, ops[j]? = some o ∧ o.dst = some d := by
  unfold dstIs at h
  cases ho : ops[j]? with
  | none => rw [ho] at h; cases h
  | some o =>
    rw [ho] at h
    simp only at h
    cases hd : o.dst with
    | none => rw [hd] at h; cases h
    | some d' => rw [hd] at h; exact ⟨o, rfl, by rw [hd, Nat.eq_of_beq_eq_true h]⟩
theorem pinv_step {i : Nat} {o : Oper} {listed : Array Bool} {a : Act} {w w' : World} {v : Value} (hB : persB n ops e0 = true) (hmono : ∀ j oj, ops[j]? = some oj → listed.getD j false = true → ∀ h h' v, Ext h h' → lkp ps j h v → lkp ps j h' v) (inv : PInv σ ops n e0 h0 ps listed a w)
    (ho : ops[i]? = some o) (h1 : listed.getD i true = false) (hall : ∀ x ∈ o.after, Region.binds .any x = true → listed.getD x.on false = true) (hs : std w' = σ) (hx : Ext w.heap w'.heap) (hp : lkp ps i w'.heap v) :
    PInv σ ops n e0 h0 ps (listed.setIfInBounds i true) (a.put o.dst v) w' ∧ ((listed.setIfInBounds i true).toList.filter id).length = (listed.toList.filter id).length + 1 := by
  have hio : i < ops.size := (Array.getElem?_eq_some_iff.1 ho).1
  have hil : i < listed.size := by rw [inv.size]; exact hio
  have hB' := List.all_eq_true.1 hB i (List.mem_range.2 hio)
  rw [ho] at hB'
  simp only [Bool.and_eq_true] at hB'
  refine ⟨⟨hs, inv.ext.trans hx, by simp [inv.size], ?_, ?_, ?_⟩, ?_⟩
  · intro k ok hk hlk x hxx hb
    by_cases hik : i = k
    · subst hik
      rw [ho] at hk; cases hk
      have h5 := hall x hxx hb
      by_cases h6 : i = x.on
      · subst h6; simp [hil]
      · simpa [Array.getD_eq_getD_getElem?, Array.getElem?_setIfInBounds, h6] using h5
    · have h5 := inv.down k ok hk (by simpa [Array.getD_eq_getD_getElem?, Array.getElem?_setIfInBounds, hik] using hlk) x hxx hb
      by_cases h6 : i = x.on
      · subst h6; simp [hil]
      · simpa [Array.getD_eq_getD_getElem?, Array.getElem?_setIfInBounds, h6] using h5
  · cases hd : o.dst with
    | none => exact inv.hld.1
    | some d =>
      rw [hd] at hB'
      simp only [Bool.and_eq_true] at hB'
      obtain ⟨k1, k2, k3⟩ := inv.hld.1
      refine ⟨k1, by simpa [Act.put] using k2, fun s u hsu => ?_⟩
      have hne : s ≠ d := by
        intro e; subst e
        have hmem : ∃ u', (s, u') ∈ e0 := lk_mem _ _ _ hsu
        obtain ⟨u', hu'⟩ := hmem
        have := List.all_eq_true.1 hB'.2.2 (s, u') hu'
        simp at this
      simp only [Act.put, Array.getElem?_setIfInBounds, if_neg (Ne.symm hne)]
      exact k3 s u hsu
  · intro j d hj hjd
    by_cases hij : i = j
    · subst hij
      have hd : o.dst = some d := by
        unfold dstIs at hjd
        rw [ho] at hjd
        simp only at hjd
        cases hd : o.dst with
        | none => rw [hd] at hjd; cases hjd
        | some d' => rw [hd] at hjd; rw [Nat.eq_of_beq_eq_true hjd]
      rw [hd] at hB'
      simp only [Bool.and_eq_true] at hB'
      have hdn : d < n := by simpa [Nat.blt_eq] using hB'.2.1.1
      refine ⟨v, ?_, hp⟩
      rw [hd]
      have := inv.hld.1.2.1
      simp [Act.put, this, hdn]
    · have hj' : listed.getD j false = true := by
        simpa [Array.getD_eq_getD_getElem?, Array.getElem?_setIfInBounds, hij] using hj
      obtain ⟨v', hv', hp'⟩ := inv.hld.2 j d hj' hjd
      obtain ⟨oj, hoj, hdj⟩ := dst_of hjd
      have hjo : j < ops.size := (Array.getElem?_eq_some_iff.1 hoj).1
      refine ⟨v', ?_, hmono j oj hoj hj' _ _ _ hx hp'⟩
      cases hd : o.dst with
      | none => exact hv'
      | some d2 =>
        have hne : d2 ≠ d := by
          intro e; subst e
          rw [hd] at hB'
          simp only [Bool.and_eq_true] at hB'
          have h5 := List.all_eq_true.1 hB'.2.1.2 j (List.mem_range.2 hjo)
          rw [hjd] at h5
          simp at h5
          exact hij h5
        simp only [Act.put, Array.getElem?_setIfInBounds, if_neg hne]
        exact hv'
  · have hf2 : listed.toList[i]? = some false := by
      rw [getD_tf hil] at h1
      have h1' : listed[i]? = some listed[i] := Array.getElem?_eq_getElem hil
      rw [Array.getElem?_toList, h1']
      rw [Array.getD_eq_getD_getElem?, h1'] at h1
      simpa using h1
    have := set_count listed.toList i hf2
    rw [show (listed.setIfInBounds i true).toList = listed.toList.set i true by simp]
    omega
theorem pers_run (hB : persB n ops e0 = true) (gs : Goods σ P ops n e0 h0 ps) (hl : ps.length = ops.size) (hfin : ∀ w a, std w = σ → Ext h0 w.heap → Hld ops n e0 ps (fun j => j < ops.size) w.heap a → Q .normal a w) :
    ∀ (fuel : Nat) (listed : Array Bool) (a : Act) (w : World), PInv σ ops n e0 h0 ps listed a w → ops.size ≤ fuel + (listed.toList.filter id).length → wpAny P .any ops Q fuel listed a w := by
  have hdone : ∀ (listed : Array Bool) (a : Act) (w : World), PInv σ ops n e0 h0 ps listed a w → Region.ready .any ops listed = [] → Q .normal a w := by
    intro listed a w inv hr
    have hall : ∀ i, i < ops.size → listed.getD i false = true := by
      intro i
      induction i using Nat.strongRecOn with
      | _ i ih =>
        intro hi
        apply Classical.byContradiction
        intro hn
        have hmem : i ∈ Region.ready .any ops listed := by
          refine mem_ready.2 ⟨?_, ?_⟩
          · have : i < listed.size := by rw [inv.size]; exact hi
            rw [getD_tf this]; simpa using hn
          · refine ⟨ops[i], Array.getElem?_eq_getElem hi, fun x hx hb => ?_⟩
            have h1 := List.all_eq_true.1 hB i (List.mem_range.2 hi)
            rw [Array.getElem?_eq_getElem hi] at h1
            simp only [Bool.and_eq_true] at h1
            have h2 := Array.all_eq_true_iff_forall_mem.1 h1.1 x hx
            rw [hb] at h2
            have h3 : x.on < i := by simpa [Nat.blt_eq] using h2
            exact ih x.on h3 (by omega)
        rw [hr] at hmem
        cases hmem
    exact hfin w a inv.std inv.ext ⟨inv.hld.1, fun j d hj => inv.hld.2 j d (hall j hj)⟩
  intro fuel
  induction fuel with
  | zero =>
    intro listed a w inv hf
    have hr : Region.ready .any ops listed = [] := by
      cases hc : Region.ready .any ops listed with
      | nil => rfl
      | cons i r =>
        exfalso
        have hi : i ∈ Region.ready .any ops listed := by rw [hc]; simp
        obtain ⟨h1, o, ho, _⟩ := mem_ready.1 hi
        have hlt : i < listed.size := by rw [inv.size]; exact (Array.getElem?_eq_some_iff.1 ho).1
        have hle : (listed.toList.filter id).length < listed.toList.length := by
          apply List.length_filter_lt_length_iff_exists.2
          refine ⟨listed[i], by simp, ?_⟩
          simp [hlt] at h1
          simp [h1]
        simp only [Array.length_toList] at hle
        have := inv.size
        omega
    exact ⟨hr, hdone listed a w inv hr⟩
  | succ fuel ih =>
    intro listed a w inv hf
    refine ⟨hdone listed a w inv, fun i hi => ?_⟩
    obtain ⟨h1, o, ho, hall⟩ := mem_ready.1 hi
    have hio : i < ops.size := (Array.getElem?_eq_some_iff.1 ho).1
    have hil : i < listed.size := by rw [inv.size]; exact hio
    have g := goods_at hB gs i (by rw [hl]; exact hio)
    obtain ⟨-, g2⟩ := g o ho
    have hst := g2 w.heap inv.ext w a inv.std rfl inv.hld.1 (fun j d hj hjd => inv.hld.2 j d (anc_listed inv.size inv.down _ _ _ (fun o' ho' => by rw [ho] at ho'; cases ho'; exact hall) hj) hjd)
      (wpAny P .any ops Q fuel (listed.setIfInBounds i true)) Q (fun v w' hs hx hp => ?_)
    · unfold wpOp
      simp only [ho]
      split
      · rename_i hw; rw [if_pos hw] at hst; exact .inl hst
      · rename_i hw; rw [if_neg hw] at hst; exact hst
    · obtain ⟨inv', hcnt⟩ := pinv_step hB (fun j oj hoj _ => (goods_at hB gs j (by rw [hl]; exact (Array.getElem?_eq_some_iff.1 hoj).1) oj hoj).1) inv ho h1 hall hs hx hp
      exact ih _ _ _ inv' (by omega)
/-! The last operations stand one behind the other, and behind all that come before them. -/
def tailB (ops : Array Oper) (m : Nat) : Bool :=
  ((List.range m).all fun j => (List.range (m + 1)).any fun k => match ops[k]? with
    | some o => o.after.any fun x => Region.binds .any x && Nat.beq x.on j
    | none => false) &&
  ((List.range ops.size).all fun i => Nat.ble i m || match ops[i]? with
    | some o => o.after.any fun x => Region.binds .any x && Nat.beq (x.on + 1) i
    | none => false)
theorem all_listed {m : Nat} (hB : persB n ops e0 = true) (hT : tailB ops m = true) {listed : Array Bool} (hs : listed.size = ops.size) (down : ∀ i o, ops[i]? = some o → listed.getD i true = true → ∀ x ∈ o.after, Region.binds .any x = true → listed.getD x.on false = true)
    (hm : ∀ o, ops[m]? = some o → ∀ x ∈ o.after, Region.binds .any x = true → listed.getD x.on false = true) : ∀ d j, m - j ≤ d → j < m → listed.getD j false = true
  | 0, j, h1, h2 => by omega
  | d + 1, j, h1, h2 => by
    simp only [tailB, Bool.and_eq_true] at hT
    have h3 := List.all_eq_true.1 hT.1 j (List.mem_range.2 h2)
    obtain ⟨k, hk, h4⟩ := List.any_eq_true.1 h3
    have hkm : k < m + 1 := List.mem_range.1 hk
    cases ho : ops[k]? with
    | none => rw [ho] at h4; cases h4
    | some o =>
      rw [ho] at h4
      simp only at h4
      obtain ⟨x, hx, hb⟩ := Array.any_eq_true'.1 h4
      simp only [Bool.and_eq_true] at hb
      have hxj : x.on = j := Nat.eq_of_beq_eq_true hb.2
      have hko : k < ops.size := (Array.getElem?_eq_some_iff.1 ho).1
      have hlt : x.on < k := by
        have h5 := List.all_eq_true.1 hB k (List.mem_range.2 hko)
        rw [ho] at h5
        simp only [Bool.and_eq_true] at h5
        have h6 := Array.all_eq_true_iff_forall_mem.1 h5.1 x hx
        rw [hb.1] at h6
        simpa [Nat.blt_eq] using h6
      by_cases hkm2 : k = m
      · subst hkm2
        rw [← hxj]; exact hm o ho x hx hb.1
      · have hlk := all_listed hB (by simp only [tailB, Bool.and_eq_true]; exact hT) hs down hm d k (by omega) (by omega)
        rw [← hxj]
        exact down k o ho (by rw [getD_tf (by omega)]; exact hlk) x hx hb.1
theorem pers_run2 {m : Nat} {l : List Oper} (hop : l.toArray = ops) (hB : persB n ops e0 = true) (hT : tailB ops m = true) (hm : m ≤ ops.size) (hq : Region.seqB .any ops (l.drop m).length m ((List.range ops.size).map (fun i => Nat.blt i m)).toArray = true)
    (gs : Goods σ P ops n e0 h0 ps) (hl : ps.length = m) (hfin : ∀ w a, std w = σ → Ext h0 w.heap → Hld ops n e0 ps (fun j => j < m) w.heap a → wpList P ops Q (l.drop m) a w) :
    ∀ (fuel : Nat) (listed : Array Bool) (a : Act) (w : World), PInv σ ops n e0 h0 ps listed a w → (∀ i, m ≤ i → listed.getD i false = false) → ops.size = fuel + (listed.toList.filter id).length → wpAny P .any ops Q fuel listed a w := by
  have hdone : ∀ (fuel : Nat) (listed : Array Bool) (a : Act) (w : World), PInv σ ops n e0 h0 ps listed a w → (∀ i, m ≤ i → listed.getD i false = false) → ops.size = fuel + (listed.toList.filter id).length → (∀ j, j < m → listed.getD j false = true) → wpAny P .any ops Q fuel listed a w := by
    intro fuel listed a w inv hge hf hall
    have e1 : listed = ((List.range ops.size).map (fun i => Nat.blt i m)).toArray := by
      apply Array.ext
      · simp [inv.size]
      · intro i h1 h2
        simp only [List.getElem_toArray, List.getElem_map, List.getElem_range]
        by_cases hi : i < m
        · have := hall i hi
          simp [h1] at this
          rw [this]; symm; simp [Nat.blt_eq, hi]
        · have := hge i (by omega)
          simp [h1] at this
          rw [this]; symm
          cases hb : Nat.blt i m with
          | false => rfl
          | true => exact absurd (by simpa [Nat.blt_eq] using hb) hi
    have e2 : ∀ (k m : Nat), m ≤ k → (((List.range k).map (fun i => Nat.blt i m)).filter id).length = m := by
      intro k
      induction k with
      | zero => intro m hm'; simp; omega
      | succ k ih =>
        intro m hm'
        rw [List.range_succ, List.map_append, List.filter_append, List.length_append]
        by_cases hk : m ≤ k
        · have h0 : Nat.blt k m = false := by
            cases hb : Nat.blt k m with
            | false => rfl
            | true => exact absurd (by simpa [Nat.blt_eq] using hb) (by omega)
          rw [ih m hk]; simp [h0]
        · have hmk : m = k + 1 := by omega
          subst hmk
          have h0 : Nat.blt k (k + 1) = true := by simp [Nat.blt_eq]
          have h1 : ((List.range k).map (fun i => Nat.blt i (k + 1))) = ((List.range k).map (fun i => Nat.blt i k)) := by
            apply List.map_congr_left
            intro i hi
            have := List.mem_range.1 hi
            rw [show Nat.blt i k = true by simp [Nat.blt_eq, this], show Nat.blt i (k + 1) = true by simp [Nat.blt_eq]; omega]
          rw [h1, ih k (Nat.le_refl k)]; simp [h0]
    have e3 : (listed.toList.filter id).length = m := by rw [e1]; exact e2 _ _ hm
    have e4 : fuel = (l.drop m).length := by
      have : l.length = ops.size := by rw [← hop]; simp
      rw [List.length_drop]; omega
    subst e4
    refine wpAny_of_seq (md := .any) (l.drop m) m listed a w (fun j => ?_) (e1 ▸ hq) (hfin w a inv.std inv.ext ⟨inv.hld.1, fun j d hj => inv.hld.2 j d (hall j hj)⟩)
    rw [List.getElem?_drop, ← hop]; simp
  intro fuel
  induction fuel with
  | zero =>
    intro listed a w inv hge hf
    refine hdone 0 listed a w inv hge hf (fun j hj => ?_)
    have h1 : (listed.toList.filter id).length = listed.toList.length := (show listed.toList.length = listed.size from rfl) ▸ (by rw [inv.size]; simpa using hf.symm)
    have h2 := List.length_filter_eq_length_iff.1 h1
    have hjl : j < listed.size := by rw [inv.size]; omega
    have := h2 listed[j] (by simp)
    simpa [hjl] using this
  | succ fuel ih =>
    intro listed a w inv hge hf
    by_cases hall : ∀ j, j < m → listed.getD j false = true
    · exact hdone _ listed a w inv hge hf hall
    · refine ⟨fun hr => ?_, fun i hi => ?_⟩
      · exfalso
        apply hall
        intro j
        induction j using Nat.strongRecOn with
        | _ j ihj =>
          intro hj
          apply Classical.byContradiction
          intro hn
          have hjo : j < ops.size := by omega
          have hmem : j ∈ Region.ready .any ops listed := by
            refine mem_ready.2 ⟨?_, ops[j], Array.getElem?_eq_getElem hjo, fun x hx hb => ?_⟩
            · rw [getD_tf (by rw [inv.size]; exact hjo)]; simpa using hn
            · have h1 := List.all_eq_true.1 hB j (List.mem_range.2 hjo)
              rw [Array.getElem?_eq_getElem hjo] at h1
              simp only [Bool.and_eq_true] at h1
              have h2 := Array.all_eq_true_iff_forall_mem.1 h1.1 x hx
              rw [hb] at h2
              have h3 : x.on < j := by simpa [Nat.blt_eq] using h2
              exact ihj x.on h3 (by omega)
          rw [hr] at hmem
          cases hmem
      · obtain ⟨h1, o, ho, hdep⟩ := mem_ready.1 hi
        have hio : i < ops.size := (Array.getElem?_eq_some_iff.1 ho).1
        have him : i < m := by
          apply Classical.byContradiction
          intro hn
          apply hall
          by_cases hie : i = m
          · subst hie
            intro j hj
            exact all_listed hB hT inv.size inv.down (fun o' ho' => by rw [ho] at ho'; cases ho'; exact hdep) _ j (Nat.le_refl _) hj
          · have hT2 := hT
            simp only [tailB, Bool.and_eq_true] at hT2
            have h3 := List.all_eq_true.1 hT2.2 i (List.mem_range.2 hio)
            rw [ho] at h3
            simp only [Bool.or_eq_true] at h3
            rcases h3 with h3 | h3
            · have := Nat.le_of_ble_eq_true h3; omega
            · obtain ⟨x, hx, hb⟩ := Array.any_eq_true'.1 h3
              simp only [Bool.and_eq_true] at hb
              have h4 := hdep x hx hb.1
              have h5 : x.on + 1 = i := Nat.eq_of_beq_eq_true hb.2
              rw [hge x.on (by omega)] at h4
              cases h4
        have hil : i < listed.size := by rw [inv.size]; exact hio
        have hBl : ∀ j, j < m → j < ps.length := fun j hj => by rw [hl]; exact hj
        have g := goods_at hB gs i (hBl i him)
        obtain ⟨-, g2⟩ := g o ho
        have hst := g2 w.heap inv.ext w a inv.std rfl inv.hld.1 (fun j d hj hjd => inv.hld.2 j d (anc_listed inv.size inv.down _ _ _ (fun o' ho' => by rw [ho] at ho'; cases ho'; exact hdep) hj) hjd)
          (wpAny P .any ops Q fuel (listed.setIfInBounds i true)) Q (fun v w' hs hx hp => ?_)
        · unfold wpOp
          simp only [ho]
          split
          · rename_i hw; rw [if_pos hw] at hst; exact .inl hst
          · rename_i hw; rw [if_neg hw] at hst; exact hst
        · obtain ⟨inv', hcnt⟩ := pinv_step hB (fun j oj hoj hj => by
            have hjm : j < m := by
              apply Classical.byContradiction
              intro hn
              rw [hge j (by omega)] at hj
              cases hj
            exact (goods_at hB gs j (hBl j hjm) oj hoj).1) inv ho h1 hdep hs hx hp
          refine ih _ _ _ inv' (fun k hk => ?_) (by omega)
          have := hge k hk
          simpa [Array.getD_eq_getD_getElem?, Array.getElem?_setIfInBounds, show ¬ i = k by omega] using this
theorem W_pers {id : Nat} {l : List Oper} (e0 : Env) (hsub : Sub e0 e) (hm : P.follows .mixedOrders = true) (k : LP σ P l.toArray n Q e0 h []) : W σ P n (.region id l.toArray true) Q e h := by
  intro w a hs hh he
  exact wp_region_any hm (k trivial { w with drawn := w.drawn + 1 } a hs hh (he.sub hsub))
theorem LP_end (fin : List (Nat × Nat)) (hl : Nat.beq ps.length ops.size = true) (hB : persB n ops e0 = true) (hf : fin.all (fun x => dstIs ops x.1 x.2) = true) (k : ∀ h', Ext h0 h' → Needs h' ps fin e0 (fun e => X σ n Q .normal e h')) : LP σ P ops n Q e0 h0 ps := by
  intro gs w a hs hh he
  refine pers_run hB gs (Nat.eq_of_beq_eq_true hl) (fun w' a' hs' hx hd => ?_) ops.size _ a w ⟨hs, by rw [hh]; exact Ext.refl _, by simp, ?_, he, ?_⟩ (by omega)
  · obtain ⟨e', he', k'⟩ := needs_of fin e0 hd.1 (fun x hx => by
      have h1 := List.all_eq_true.1 hf x hx
      obtain ⟨o, ho, _⟩ := dst_of h1
      exact hd.2 x.1 x.2 (Array.getElem?_eq_some_iff.1 ho).1 h1) (k w'.heap hx)
    exact k' w' a' hs' rfl he'
  · intro i o ho hl'
    have : i < ops.size := (Array.getElem?_eq_some_iff.1 ho).1
    simp [this] at hl'
  · intro j d hj
    simp only [Array.getD_eq_getD_getElem?, Array.getElem?_replicate] at hj
    split at hj <;> cases hj
theorem LP_tail {l : List Oper} (hop : l.toArray = ops) (m : Nat) (fin : List (Nat × Nat)) (hl : Nat.beq ps.length m = true) (hm : Nat.ble m ops.size = true) (hB : persB n ops e0 = true) (hT : tailB ops m = true) (hq : Region.seqB .any ops (l.drop m).length m ((List.range ops.size).map (fun i => Nat.blt i m)).toArray = true) (hf : fin.all (fun x => dstIs ops x.1 x.2 && Nat.blt x.1 m) = true)
    (k : ∀ h', Ext h0 h' → Needs h' ps fin e0 (fun e => L σ P ops n Q (l.drop m) e h')) : LP σ P ops n Q e0 h0 ps := by
  intro gs w a hs hh he
  refine pers_run2 hop hB hT (Nat.le_of_ble_eq_true hm) hq gs (Nat.eq_of_beq_eq_true hl) (fun w' a' hs' hx hd => ?_) ops.size _ a w ⟨hs, by rw [hh]; exact Ext.refl _, by simp, ?_, he, ?_⟩ (fun i _ => ?_) ?_
  · obtain ⟨e', he', k'⟩ := needs_of fin e0 hd.1 (fun x hx => by
      have h1 := List.all_eq_true.1 hf x hx
      simp only [Bool.and_eq_true] at h1
      exact hd.2 x.1 x.2 (by simpa [Nat.blt_eq] using h1.2) h1.1) (k w'.heap hx)
    exact k' w' a' hs' rfl he'
  · intro i o ho hl'
    have : i < ops.size := (Array.getElem?_eq_some_iff.1 ho).1
    simp [this] at hl'
  · intro j d hj
    simp only [Array.getD_eq_getD_getElem?, Array.getElem?_replicate] at hj
    split at hj <;> cases hj
  · simp only [Array.getD_eq_getD_getElem?, Array.getElem?_replicate]
    split <;> rfl
  · simp
theorem LP_op {o : Oper} (i : Nat) (p : Pd) (need : List (Nat × Nat)) (hi : Nat.beq i ps.length = true) (ho : ops[i]? = some o) (hn : needB ops i need = true) (hp : ∀ h h' v, Ext h h' → p h v → p h' v)
    (step : ∀ h, Ext h0 h → Needs h ps need e0 (fun e => Stp σ P ops n e h o (fun v h' => Ext h h' ∧ p h' v))) (k : LP σ P ops n Q e0 h0 ((i, p) :: ps)) : LP σ P ops n Q e0 h0 ps := by
  intro gs
  refine k ⟨Nat.eq_of_beq_eq_true hi, ?_, gs⟩
  intro o' ho'
  rw [ho] at ho'
  cases ho'
  refine ⟨hp, fun h hx w a hs hh he hd K Q' hK => ?_⟩
  obtain ⟨e', he', k'⟩ := needs_of need e0 he (fun x hx => by
    have h1 := List.all_eq_true.1 hn x hx
    simp only [Bool.and_eq_true] at h1
    exact hd x.1 x.2 h1.1 h1.2) (step h hx)
  exact k' w a hs hh he' K Q' (fun v w' h1 h2 => hK v w' h1 h2.1 h2.2)

theorem LPc {o : Oper} (i : Nat) (u : Value) (need : List (Nat × Nat)) (step : ∀ h, Ext h0 h → Needs h ps need e0 (fun e => Stp σ P ops n e h o (fun v h' => Ext h h' ∧ u = v))) (k : LP σ P ops n Q e0 h0 ((i, fun _ vv => u = vv) :: ps)) (hi : Nat.beq i ps.length = true := by exact rfl) (ho : ops[i]? = some o := by exact rfl) (hn : needB ops i need = true := by kernel_rfl) : LP σ P ops n Q e0 h0 ps :=
  LP_op i _ need hi ho hn (fun _ _ _ _ p => p) step k
theorem Nn {K : Env → Prop} (k : K e) : Needs h ps [] e K := k
/-! ### The steps -/
variable {o : Oper} {p : Pd}
theorem Stp_yld {v : Value} (hy : Yld P n e h o v) (hg : gd ops e o.guard = some true) (hp : p h v) : Stp σ P ops n e h o (fun v h' => Ext h h' ∧ p h' v) := by
  intro w a hs hh he K Q hK
  rw [wanted_of_gd he hg, if_pos rfl]
  unfold Oper.wp
  rw [hy w a hh he, Oper.upon_value]
  exact hK v w hs ⟨by rw [hh]; exact Ext.refl _, by rw [hh]; exact hp⟩
theorem Sy {u v : Value} (hy : Yld P n e h o v) (hg : gd ops e o.guard = some true := by exact rfl) (hu : u = v := by exact rfl) : Needs h ps [] e (fun e => Stp σ P ops n e h o (fun v' h' => Ext h h' ∧ u = v')) := Nn (Stp_yld hy hg hu)
theorem Sm {dt : Option Tmp} {t : TypeId} {pos : String} {af : Array Edge} {g : Option (Nat × Bool)} {x : Operand} {u v : Value} (hx : ev e x = some v := by exact rfl) (hg : gd ops e g = some true := by exact rfl) (hu : u = v := by exact rfl) : Needs h ps [] e (fun e => Stp σ P ops n e h ⟨dt, .move x, t, pos, af, g⟩ (fun v' h' => Ext h h' ∧ u = v')) := Sy (Y_move hx) hg hu
theorem Sf (off : Nat) {dt : Option Tmp} {t : TypeId} {pos : String} {af : Array Edge} {g : Option (Nat × Bool)} {x : Operand} {S f : Nat} {ad : Addr} {u : Value} (hx : ev e x = some (.pointer (some ad)) := by exact rfl) (hf : fld P S f = some off := by kernel_rfl) (hs : ad.spot = none := by exact rfl) (hg : gd ops e g = some true := by exact rfl) (hu : u = .pointer (some ⟨ad.block, ad.off + off, none⟩) := by exact rfl) : Needs h ps [] e (fun e => Stp σ P ops n e h ⟨dt, .fieldAddr S x f, t, pos, af, g⟩ (fun v' h' => Ext h h' ∧ u = v')) := Sy (Y_fieldAddr hf hx hs) hg hu
theorem Sb {dt : Option Tmp} {t : TypeId} {pos : String} {af : Array Edge} {g : Option (Nat × Bool)} {x : Operand} {T : TypeId} {D : TypeDesc} {b o : Nat} {vs : List Value} {u v : Value} (hT : P.underlying T = some D) (hb : Blk h b vs) (hD : isAggD D = false := by exact rfl) (hx : ev e x = some (.pointer (some ⟨b, o, none⟩)) := by exact rfl) (hk : vs[o]? = some v := by exact rfl) (hg : gd ops e g = some true := by exact rfl) (hu : u = v := by exact rfl) : Needs h ps [] e (fun e => Stp σ P ops n e h ⟨dt, .load T x, t, pos, af, g⟩ (fun v' h' => Ext h h' ∧ u = v')) := Sy (Y_ldblk hT hD hx hb hk) hg hu
theorem Stp_skip (hg : gd ops e o.guard = some false) (hp : p h undef) : Stp σ P ops n e h o (fun v h' => Ext h h' ∧ p h' v) := by
  intro w a hs hh he K Q hK
  rw [wanted_of_gd he hg, if_neg (by simp)]
  exact hK undef w hs ⟨by rw [hh]; exact Ext.refl _, by rw [hh]; exact hp⟩
theorem Stp_mks {R : Value → Heap → Prop} (hy : Mks P n e h o R) (hg : gd ops e o.guard = some true) (hp : ∀ v h', R v h' → Ext h h' ∧ p h' v) : Stp σ P ops n e h o (fun v h' => Ext h h' ∧ p h' v) := by
  intro w a hs hh he K Q hK
  rw [wanted_of_gd he hg, if_pos rfl]
  obtain ⟨v, w', h1, h2, h3⟩ := hy w a hh he
  unfold Oper.wp
  rw [h1, Oper.upon_value]
  exact hK v w' (h2.trans hs) (hp v _ h3)
theorem Stp_call {f : FuncId} {args : Array Value} {R : Value → Heap → Prop} (hy : Ent P n e h o f args) (c : Cal P f args h R) (hg : gd ops e o.guard = some true) (hp : ∀ v h', R v h' → Ext h h' ∧ p h' v) : Stp σ P ops n e h o (fun v h' => Ext h h' ∧ p h' v) := by
  intro w a hs hh he K Q hK
  rw [wanted_of_gd he hg, if_pos rfl]
  unfold Oper.wp
  rw [hy w a hh he, Oper.upon_enter]
  refine (c w hh).mono ?_
  rintro _ w' ⟨v, rfl, h2, h3⟩
  exact hK v w' (h2.trans hs) (hp v _ h3)
end
end Go.Xp
