/- Regions that draw their order, with one call in the middle that may write: all that stands ahead of it in the text comes before it, all that stands behind hangs on it. -/
import Derived.Test.YtdmhigknppkniaaGreatDoorDraw
set_option linter.unusedSimpArgs false
set_option linter.unusedVariables false
set_option linter.unusedSectionVars false
namespace Go.Xp

/-- All operations ahead of 'm' come before it, and those behind it after it. -/
def midB (ops : Array Oper) (m : Nat) : Bool :=
  ((List.range m).all fun j => (List.range (m + 1)).any fun k => match ops[k]? with
    | some o => o.after.any fun x => Region.binds .any x && Nat.beq x.on j
    | none => false) &&
  ((List.range ops.size).all fun i => Nat.ble i m || match ops[i]? with
    | some o => o.after.any fun x => Region.binds .any x && Nat.ble m x.on
    | none => false)
def fstB (ops : Array Oper) (m : Nat) : Array Bool := ((List.range ops.size).map (fun i => Nat.blt i m)).toArray
def trues : Nat → List (Nat × Pd)
  | 0 => []
  | m + 1 => (m, fun _ _ => True) :: trues m
def GoodsM (σ : Std) (P : Program) (ops : Array Oper) (n : Nat) (e0 : Env) (h0 : Heap) (m : Nat) : List (Nat × Pd) → Prop
  | [] => True
  | (i, p) :: r => i = r.length ∧ (if i < m then (∀ h h' v, Ext h h' → p h v → p h' v) else Good σ P ops n e0 h0 r i p) ∧ GoodsM σ P ops n e0 h0 m r
/-- The first m operations have come up; ps says what they gave. -/
def LM (σ : Std) (P : Program) (ops : Array Oper) (n : Nat) (Q : Exit → Act → World → Prop) (e0 : Env) (h0 : Heap) (m : Nat) (ps : List (Nat × Pd)) : Prop :=
  GoodsM σ P ops n e0 h0 m ps → ∀ w a, std w = σ → w.heap = h0 → EOk n e0 a → (∀ j d, j < m → dstIs ops j d = true → ∃ v, a.tmps[d]? = some v ∧ lkp ps j h0 v) → wpAny P .any ops Q (ops.size - m) (fstB ops m) a w
/-- Operation m comes up now. -/
def LT (σ : Std) (P : Program) (ops : Array Oper) (n : Nat) (Q : Exit → Act → World → Prop) (e0 : Env) (m : Nat) (o : Oper) (e : Env) (h : Heap) : Prop :=
  ∀ w a, std w = σ → w.heap = h → EOk n e0 a → EOk n e a → if Region.wanted o (yielded ops a.tmps) then o.wp P a w (wpAny P .any ops Q (ops.size - (m + 1)) (fstB ops (m + 1))) Q else wpAny P .any ops Q (ops.size - (m + 1)) (fstB ops (m + 1)) (a.put o.dst undef) w

section
variable {σ : Std} {P : Program} {n : Nat} {Q : Exit → Act → World → Prop} {e e0 : Env} {h h0 : Heap} {ops : Array Oper} {ps : List (Nat × Pd)} {m : Nat}

theorem goodsM_mono : ∀ {ps : List (Nat × Pd)}, GoodsM σ P ops n e0 h0 m ps → ∀ j oj, ops[j]? = some oj → j < ps.length → ∀ h h' v, Ext h h' → lkp ps j h v → lkp ps j h' v
  | [], _, j, _, _, hj => by simp at hj
  | (k, p) :: r, ⟨hk, g, gs⟩, j, oj, hoj, hj => by
    subst hk
    rcases Nat.lt_or_ge j r.length with h1 | h1
    · rw [lkp_ne (by omega)]; exact goodsM_mono gs j oj hoj h1
    · have : j = r.length := by simp at hj; omega
      subst this
      rw [lkp_self]
      split at g
      · exact g
      · exact (g oj hoj).1
theorem goodsM_at (hB : persB n ops e0 = true) : ∀ {ps : List (Nat × Pd)}, GoodsM σ P ops n e0 h0 m ps → ∀ i, i < ps.length → ¬ i < m → Good σ P ops n e0 h0 ps i (lkp ps i)
  | [], _, i, hi, _ => by simp at hi
  | (k, p) :: r, ⟨hk, g, gs⟩, i, hi, hm => by
    subst hk
    have hr : ∀ j, j < r.length → lkp ((r.length, p) :: r) j = lkp r j := fun j hj => lkp_ne (by omega)
    rcases Nat.lt_or_ge i r.length with h1 | h1
    · rw [hr i h1]
      exact goods_ext hr (fun j hj => by have := anc_lt hB _ _ _ hj; omega) (goodsM_at hB gs i h1 hm)
    · have : i = r.length := by simp at hi; omega
      subst this
      rw [lkp_self]
      rw [if_neg hm] at g
      exact goods_ext hr (fun j hj => anc_lt hB _ _ _ hj) g
theorem persM_run (hB : persB n ops e0 = true) (gs : GoodsM σ P ops n e0 h0 m ps) (hl : ps.length = ops.size) (hfin : ∀ w a, std w = σ → Ext h0 w.heap → Hld ops n e0 ps (fun j => j < ops.size) w.heap a → Q .normal a w) :
    ∀ (fuel : Nat) (listed : Array Bool) (a : Act) (w : World), PInv σ ops n e0 h0 ps listed a w → (∀ j, j < m → listed.getD j true = true) → ops.size ≤ fuel + (listed.toList.filter id).length → wpAny P .any ops Q fuel listed a w := by
  have hdone : ∀ (listed : Array Bool) (a : Act) (w : World), PInv σ ops n e0 h0 ps listed a w → Region.ready .any ops listed = [] → Q .normal a w := by
    intro listed a w inv hr
    have hall : ∀ i, i < ops.size → listed.getD i false = true := by
      intro i
      induction i using Nat.strongRecOn with
      | _ i ih =>
        intro hi
        apply Classical.byContradiction
        intro hn
        have hmem : i ∈ Region.ready .any ops listed := by
          refine mem_ready.2 ⟨?_, ?_⟩
          · have : i < listed.size := by rw [inv.size]; exact hi
            rw [getD_tf this]; simpa using hn
          · refine ⟨ops[i], Array.getElem?_eq_getElem hi, fun x hx hb => ?_⟩
            have h1 := List.all_eq_true.1 hB i (List.mem_range.2 hi)
            rw [Array.getElem?_eq_getElem hi] at h1
            simp only [Bool.and_eq_true] at h1
            have h2 := Array.all_eq_true_iff_forall_mem.1 h1.1 x hx
            rw [hb] at h2
            have h3 : x.on < i := by simpa [Nat.blt_eq] using h2
            exact ih x.on h3 (by omega)
        rw [hr] at hmem
        cases hmem
    exact hfin w a inv.std inv.ext ⟨inv.hld.1, fun j d hj => inv.hld.2 j d (hall j hj)⟩
  intro fuel
  induction fuel with
  | zero =>
    intro listed a w inv hlm hf
    have hr : Region.ready .any ops listed = [] := by
      cases hc : Region.ready .any ops listed with
      | nil => rfl
      | cons i r =>
        exfalso
        have hi : i ∈ Region.ready .any ops listed := by rw [hc]; simp
        obtain ⟨h1, o, ho, _⟩ := mem_ready.1 hi
        have hlt : i < listed.size := by rw [inv.size]; exact (Array.getElem?_eq_some_iff.1 ho).1
        have hle : (listed.toList.filter id).length < listed.toList.length := by
          apply List.length_filter_lt_length_iff_exists.2
          refine ⟨listed[i], by simp, ?_⟩
          simp [hlt] at h1
          simp [h1]
        simp only [Array.length_toList] at hle
        have := inv.size
        omega
    exact ⟨hr, hdone listed a w inv hr⟩
  | succ fuel ih =>
    intro listed a w inv hlm hf
    refine ⟨hdone listed a w inv, fun i hi => ?_⟩
    obtain ⟨h1, o, ho, hall⟩ := mem_ready.1 hi
    have hio : i < ops.size := (Array.getElem?_eq_some_iff.1 ho).1
    have him : ¬ i < m := fun q => by rw [hlm i q] at h1; cases h1
    have g := goodsM_at hB gs i (by rw [hl]; exact hio) him
    obtain ⟨-, g2⟩ := g o ho
    have hst := g2 w.heap inv.ext w a inv.std rfl inv.hld.1 (fun j d hj hjd => inv.hld.2 j d (anc_listed inv.size inv.down _ _ _ (fun o' ho' => by rw [ho] at ho'; cases ho'; exact hall) hj) hjd)
      (wpAny P .any ops Q fuel (listed.setIfInBounds i true)) Q (fun v w' hs hx hp => ?_)
    · unfold wpOp
      simp only [ho]
      split
      · rename_i hw; rw [if_pos hw] at hst; exact .inl hst
      · rename_i hw; rw [if_neg hw] at hst; exact hst
    · obtain ⟨inv', hcnt⟩ := pinv_step hB (fun j oj hoj _ => goodsM_mono gs j oj hoj (by rw [hl]; exact (Array.getElem?_eq_some_iff.1 hoj).1)) inv ho h1 hall hs hx hp
      refine ih _ _ _ inv' (fun j hj => ?_) (by omega)
      have := hlm j hj
      simpa [Array.getD_eq_getD_getElem?, Array.getElem?_setIfInBounds, show ¬ i = j by omega] using this
theorem fst_count : ∀ (k m : Nat), m ≤ k → (((List.range k).map (fun i => Nat.blt i m)).filter id).length = m
  | 0, m, hm => by simp; omega
  | k + 1, m, hm => by
    rw [List.range_succ, List.map_append, List.filter_append, List.length_append]
    by_cases hk : m ≤ k
    · have h0 : Nat.blt k m = false := by
        cases hb : Nat.blt k m with
        | false => rfl
        | true => exact absurd (by simpa [Nat.blt_eq] using hb) (by omega)
      rw [fst_count k m hk]; simp [h0]
    · have hmk : m = k + 1 := by omega
      subst hmk
      have h0 : Nat.blt k (k + 1) = true := by simp [Nat.blt_eq]
      have h1 : ((List.range k).map (fun i => Nat.blt i (k + 1))) = ((List.range k).map (fun i => Nat.blt i k)) := by
        apply List.map_congr_left
        intro i hi
        have := List.mem_range.1 hi
        rw [show Nat.blt i k = true by simp [Nat.blt_eq, this], show Nat.blt i (k + 1) = true by simp [Nat.blt_eq]; omega]
      rw [h1, fst_count k k (Nat.le_refl k)]; simp [h0]
theorem blt_false {i m : Nat} (h : ¬ i < m) : Nat.blt i m = false := by
  cases hb : Nat.blt i m with
  | false => rfl
  | true => exact absurd (by simpa [Nat.blt_eq] using hb) h
theorem fst_get {i m : Nat} {b : Bool} (hi : i < ops.size) : (fstB ops m).getD i b = Nat.blt i m := by
  unfold fstB; simp [hi]
theorem midB_all (hB : persB n ops e0 = true) (hT : midB ops m = true) {listed : Array Bool} (hs : listed.size = ops.size) (down : ∀ i o, ops[i]? = some o → listed.getD i true = true → ∀ x ∈ o.after, Region.binds .any x = true → listed.getD x.on false = true)
    (hm : ∀ o, ops[m]? = some o → ∀ x ∈ o.after, Region.binds .any x = true → listed.getD x.on false = true) : ∀ d j, m - j ≤ d → j < m → listed.getD j false = true
  | 0, j, h1, h2 => by omega
  | d + 1, j, h1, h2 => by
    have hT' := hT
    simp only [midB, Bool.and_eq_true] at hT'
    have h3 := List.all_eq_true.1 hT'.1 j (List.mem_range.2 h2)
    obtain ⟨k, hk, h4⟩ := List.any_eq_true.1 h3
    have hkm : k < m + 1 := List.mem_range.1 hk
    cases ho : ops[k]? with
    | none => rw [ho] at h4; cases h4
    | some o =>
      rw [ho] at h4
      simp only at h4
      obtain ⟨x, hx, hb⟩ := Array.any_eq_true'.1 h4
      simp only [Bool.and_eq_true] at hb
      have hxj : x.on = j := Nat.eq_of_beq_eq_true hb.2
      have hko : k < ops.size := (Array.getElem?_eq_some_iff.1 ho).1
      have hlt : x.on < k := by
        have h5 := List.all_eq_true.1 hB k (List.mem_range.2 hko)
        rw [ho] at h5
        simp only [Bool.and_eq_true] at h5
        have h6 := Array.all_eq_true_iff_forall_mem.1 h5.1 x hx
        rw [hb.1] at h6
        simpa [Nat.blt_eq] using h6
      by_cases hkm2 : k = m
      · subst hkm2
        rw [← hxj]; exact hm o ho x hx hb.1
      · have hlk := midB_all hB hT hs down hm d k (by omega) (by omega)
        rw [← hxj]
        exact down k o ho (by rw [getD_tf (by omega)]; exact hlk) x hx hb.1
/-- Until operation m comes up. -/
theorem pers_mid {om : Oper} (hom : ops[m]? = some om) (hB : persB n ops e0 = true) (hT : midB ops m = true)
    (gs : Goods σ P ops n e0 h0 ps) (hl : ps.length = m) (hfin : ∀ w a, std w = σ → Ext h0 w.heap → Hld ops n e0 ps (fun j => j < m) w.heap a → if Region.wanted om (yielded ops a.tmps) then om.wp P a w (wpAny P .any ops Q (ops.size - (m + 1)) (fstB ops (m + 1))) Q else wpAny P .any ops Q (ops.size - (m + 1)) (fstB ops (m + 1)) (a.put om.dst undef) w) :
    ∀ (fuel : Nat) (listed : Array Bool) (a : Act) (w : World), PInv σ ops n e0 h0 ps listed a w → (∀ i, m ≤ i → listed.getD i false = false) → ops.size = fuel + (listed.toList.filter id).length → wpAny P .any ops Q fuel listed a w := by
  have hmo : m < ops.size := (Array.getElem?_eq_some_iff.1 hom).1
  have heq : ∀ (listed : Array Bool), listed.size = ops.size → (∀ i, m ≤ i → listed.getD i false = false) → (∀ j, j < m → listed.getD j false = true) → listed = fstB ops m := by
    intro listed hs hge hall
    unfold fstB
    apply Array.ext
    · simp [hs]
    · intro i h1 h2
      simp only [List.getElem_toArray, List.getElem_map, List.getElem_range]
      by_cases hi : i < m
      · have := hall i hi
        simp [h1] at this
        rw [this]; symm; simp [Nat.blt_eq, hi]
      · have := hge i (by omega)
        simp [h1] at this
        rw [this]; exact (blt_false hi).symm
  have hset : (fstB ops m).setIfInBounds m true = fstB ops (m + 1) := by
    apply Array.ext
    · simp [fstB]
    · intro i h1 h2
      rw [Array.getElem_setIfInBounds (by simpa using h1)]
      by_cases c : m = i
      · subst c; simp [fstB, Nat.blt_eq]
      · rw [if_neg c]
        simp only [fstB, List.getElem_toArray, List.getElem_map, List.getElem_range]
        by_cases d : i < m
        · rw [show Nat.blt i m = true by simp [Nat.blt_eq, d], show Nat.blt i (m + 1) = true by simp [Nat.blt_eq]; omega]
        · rw [blt_false d, blt_false (by omega)]
  intro fuel
  induction fuel with
  | zero =>
    intro listed a w inv hge hf
    exfalso
    have h1 : (listed.toList.filter id).length = listed.toList.length := (show listed.toList.length = listed.size from rfl) ▸ (by rw [inv.size]; simpa using hf.symm)
    have h2 := List.length_filter_eq_length_iff.1 h1
    have hjl : m < listed.size := by rw [inv.size]; omega
    have := h2 listed[m] (by simp)
    have h3 := hge m (Nat.le_refl _)
    simp [hjl] at h3
    rw [h3] at this; cases this
  | succ fuel ih =>
    intro listed a w inv hge hf
    refine ⟨fun hr => ?_, fun i hi => ?_⟩
    · exfalso
      have hall : ∀ j, j ≤ m → listed.getD j false = true := by
        intro j
        induction j using Nat.strongRecOn with
        | _ j ihj =>
          intro hj
          apply Classical.byContradiction
          intro hn
          have hjo : j < ops.size := by omega
          have hmem : j ∈ Region.ready .any ops listed := by
            refine mem_ready.2 ⟨?_, ops[j], Array.getElem?_eq_getElem hjo, fun x hx hb => ?_⟩
            · rw [getD_tf (by rw [inv.size]; exact hjo)]; simpa using hn
            · have h1 := List.all_eq_true.1 hB j (List.mem_range.2 hjo)
              rw [Array.getElem?_eq_getElem hjo] at h1
              simp only [Bool.and_eq_true] at h1
              have h2 := Array.all_eq_true_iff_forall_mem.1 h1.1 x hx
              rw [hb] at h2
              have h3 : x.on < j := by simpa [Nat.blt_eq] using h2
              exact ihj x.on h3 (by omega)
          rw [hr] at hmem
          cases hmem
      have h1 := hall m (Nat.le_refl _)
      rw [hge m (Nat.le_refl _)] at h1; cases h1
    · obtain ⟨h1, o, ho, hdep⟩ := mem_ready.1 hi
      have hio : i < ops.size := (Array.getElem?_eq_some_iff.1 ho).1
      have him : i ≤ m := by
        apply Classical.byContradiction
        intro hn
        have hT2 := hT
        simp only [midB, Bool.and_eq_true] at hT2
        have h3 := List.all_eq_true.1 hT2.2 i (List.mem_range.2 hio)
        rw [ho] at h3
        simp only [Bool.or_eq_true] at h3
        rcases h3 with h3 | h3
        · have := Nat.le_of_ble_eq_true h3; omega
        · obtain ⟨x, hx, hb⟩ := Array.any_eq_true'.1 h3
          simp only [Bool.and_eq_true] at hb
          have h4 := hdep x hx hb.1
          rw [hge x.on (Nat.le_of_ble_eq_true hb.2)] at h4
          cases h4
      by_cases hie : i = m
      · subst hie
        rw [hom] at ho; cases ho
        have hall : ∀ j, j < i → listed.getD j false = true := fun j hj => midB_all hB hT inv.size inv.down (fun o' ho' => by rw [hom] at ho'; cases ho'; exact hdep) _ j (Nat.le_refl _) hj
        have e1 := heq listed inv.size hge hall
        have e3 : (listed.toList.filter id).length = i := by rw [e1]; exact fst_count _ _ (by omega)
        have e4 : fuel = ops.size - (i + 1) := by omega
        have hst := hfin w a inv.std inv.ext ⟨inv.hld.1, fun j d hj => inv.hld.2 j d (hall j hj)⟩
        rw [← hset, ← e1, ← e4] at hst
        unfold wpOp
        simp only [hom]
        split
        · rename_i hw; rw [if_pos hw] at hst; exact .inl hst
        · rename_i hw; rw [if_neg hw] at hst; exact hst
      · have him2 : i < m := by omega
        have hBl : ∀ j, j < m → j < ps.length := fun j hj => by rw [hl]; exact hj
        have g := goods_at hB gs i (hBl i him2)
        obtain ⟨-, g2⟩ := g o ho
        have hst := g2 w.heap inv.ext w a inv.std rfl inv.hld.1 (fun j d hj hjd => inv.hld.2 j d (anc_listed inv.size inv.down _ _ _ (fun o' ho' => by rw [ho] at ho'; cases ho'; exact hdep) hj) hjd)
          (wpAny P .any ops Q fuel (listed.setIfInBounds i true)) Q (fun v w' hs hx hp => ?_)
        · unfold wpOp
          simp only [ho]
          split
          · rename_i hw; rw [if_pos hw] at hst; exact .inl hst
          · rename_i hw; rw [if_neg hw] at hst; exact hst
        · obtain ⟨inv', hcnt⟩ := pinv_step hB (fun j oj hoj hj => by
            have hjm : j < m := by
              apply Classical.byContradiction
              intro hn
              rw [hge j (by omega)] at hj
              cases hj
            exact (goods_at hB gs j (hBl j hjm) oj hoj).1) inv ho h1 hdep hs hx hp
          refine ih _ _ _ inv' (fun k hk => ?_) (by omega)
          have := hge k hk
          simpa [Array.getD_eq_getD_getElem?, Array.getElem?_setIfInBounds, show ¬ i = k by omega] using this
theorem LP_mid {o : Oper} (m : Nat) (fin : List (Nat × Nat)) (hl : Nat.beq ps.length m = true) (ho : ops[m]? = some o) (hB : persB n ops e0 = true) (hT : midB ops m = true) (hf : fin.all (fun x => dstIs ops x.1 x.2 && Nat.blt x.1 m) = true)
    (k : ∀ h', Ext h0 h' → Needs h' ps fin e0 (fun e => LT σ P ops n Q e0 m o e h')) : LP σ P ops n Q e0 h0 ps := by
  intro gs w a hs hh he
  refine pers_mid ho hB hT gs (Nat.eq_of_beq_eq_true hl) (fun w' a' hs' hx hd => ?_) ops.size _ a w ⟨hs, by rw [hh]; exact Ext.refl _, by simp, ?_, he, ?_⟩ (fun i _ => ?_) ?_
  · obtain ⟨e', he', k'⟩ := needs_of fin e0 hd.1 (fun x hx => by
      have h1 := List.all_eq_true.1 hf x hx
      simp only [Bool.and_eq_true] at h1
      exact hd.2 x.1 x.2 (by simpa [Nat.blt_eq] using h1.2) h1.1) (k w'.heap hx)
    exact k' w' a' hs' rfl hd.1 he'
  · intro i o ho hl'
    have : i < ops.size := (Array.getElem?_eq_some_iff.1 ho).1
    simp [this] at hl'
  · intro j d hj
    simp only [Array.getD_eq_getD_getElem?, Array.getElem?_replicate] at hj
    split at hj <;> cases hj
  · simp only [Array.getD_eq_getD_getElem?, Array.getElem?_replicate]
    split <;> rfl
  · simp
theorem trues_len : ∀ m, (trues m).length = m
  | 0 => rfl
  | m + 1 => by simp [trues, trues_len m]
theorem trues_at : ∀ (m j : Nat), j < m → lkp (trues m) j = fun _ _ => True
  | 0, j, h => by omega
  | m + 1, j, h => by
    by_cases c : m = j
    · subst c; exact lkp_self _ _ _
    · rw [trues, lkp_ne c]; exact trues_at m j (by omega)
theorem trues_good (k : Nat) : ∀ m, m ≤ k → GoodsM σ P ops n e0 h0 k (trues m)
  | 0, _ => trivial
  | m + 1, h => ⟨(trues_len m).symm, by rw [if_pos (by omega)]; exact fun _ _ _ _ p => p, trues_good k m (by omega)⟩
theorem LT_call {o : Oper} {d : Nat} {f : FuncId} {args : Array Value} {R : Value → Heap → Prop} (hy : Ent P n e h o f args) (c : Cal P f args h R) (hd : o.dst = some d) (ho : ops[m]? = some o) (hg : gd ops e o.guard = some true) (hB : persB n ops e0 = true)
    (k : ∀ v h', R v h' → LM σ P ops n Q e0 h' (m + 1) ((m, fun _ u => v = u) :: trues m)) : LT σ P ops n Q e0 m o e h := by
  intro w a hs hh he0 he
  have hmo : m < ops.size := (Array.getElem?_eq_some_iff.1 ho).1
  have hB' := List.all_eq_true.1 hB m (List.mem_range.2 hmo)
  rw [ho] at hB'
  simp only [hd, Bool.and_eq_true] at hB'
  have hdn : Nat.blt d n = true := hB'.2.1.1
  rw [wanted_of_gd he hg, if_pos rfl]
  unfold Oper.wp
  rw [hy w a hh he, Oper.upon_enter, hd]
  refine (c w hh).mono ?_
  rintro _ w' ⟨v, rfl, h2, h3⟩
  refine k v w'.heap h3 ⟨(trues_len m).symm, by rw [if_pos (by omega)]; exact fun _ _ _ _ p => p, trues_good _ _ (by omega)⟩ w' _ (h2.trans hs) rfl ⟨he0.1, by simpa [Act.put] using he0.2.1, fun s u hsu => ?_⟩ (fun j dj hj hjd => ?_)
  · have hne : s ≠ d := by
      intro e; subst e
      obtain ⟨u', hu'⟩ := lk_mem _ _ _ hsu
      have := List.all_eq_true.1 hB'.2.2 (s, u') hu'
      simp at this
    simp only [Act.put, Array.getElem?_setIfInBounds, if_neg (Ne.symm hne)]
    exact he0.2.2 s u hsu
  · have hsz := he0.2.1
    have hd' : d < n := by simpa [Nat.blt_eq] using hdn
    by_cases c : j = m
    · subst c
      have : d = dj := by
        unfold dstIs at hjd
        rw [ho] at hjd
        simp only [hd] at hjd
        exact Nat.eq_of_beq_eq_true hjd
      subst this
      exact ⟨v, by simp [Act.put, hsz, hd'], by rw [lkp_self]⟩
    · obtain ⟨oj, hoj, hdj⟩ := dst_of hjd
      have hjo : j < ops.size := (Array.getElem?_eq_some_iff.1 hoj).1
      have hB2 := List.all_eq_true.1 hB j (List.mem_range.2 hjo)
      rw [hoj] at hB2
      simp only [hdj, Bool.and_eq_true] at hB2
      have hdjn : dj < n := by simpa [Nat.blt_eq] using hB2.2.1.1
      have hsz' : dj < (a.put (some d) v).tmps.size := by simp [Act.put, hsz, hdjn]
      exact ⟨(a.put (some d) v).tmps[dj], Array.getElem?_eq_getElem hsz', by rw [lkp_ne (by omega), trues_at m j (by omega)]; trivial⟩
theorem LM_op {o : Oper} (i : Nat) (p : Pd) (need : List (Nat × Nat)) (hi : Nat.beq i ps.length = true) (hm : Nat.ble m i = true) (ho : ops[i]? = some o) (hn : needB ops i need = true) (hp : ∀ h h' v, Ext h h' → p h v → p h' v)
    (step : ∀ h, Ext h0 h → Needs h ps need e0 (fun e => Stp σ P ops n e h o (fun v h' => Ext h h' ∧ p h' v))) (k : LM σ P ops n Q e0 h0 m ((i, p) :: ps)) : LM σ P ops n Q e0 h0 m ps := by
  intro gs w a hs hh he hj
  have hmi := Nat.le_of_ble_eq_true hm
  refine k ⟨Nat.eq_of_beq_eq_true hi, ?_, gs⟩ w a hs hh he (fun j d h1 h2 => ?_)
  · rw [if_neg (by omega)]
    intro o' ho'
    rw [ho] at ho'
    cases ho'
    refine ⟨hp, fun h hx w a hs hh he hd K Q' hK => ?_⟩
    obtain ⟨e', he', k'⟩ := needs_of need e0 he (fun x hx => by
      have h1 := List.all_eq_true.1 hn x hx
      simp only [Bool.and_eq_true] at h1
      exact hd x.1 x.2 h1.1 h1.2) (step h hx)
    exact k' w a hs hh he' K Q' (fun v w' h1 h2 => hK v w' h1 h2.1 h2.2)
  · rw [lkp_ne (by omega)]; exact hj j d h1 h2
theorem LM_end (fin : List (Nat × Nat)) (hl : Nat.beq ps.length ops.size = true) (hm : Nat.ble m ops.size = true) (hB : persB n ops e0 = true) (hf : fin.all (fun x => dstIs ops x.1 x.2) = true) (k : ∀ h', Ext h0 h' → Needs h' ps fin e0 (fun e => X σ n Q .normal e h')) : LM σ P ops n Q e0 h0 m ps := by
  intro gs w a hs hh he hj
  have hmo := Nat.le_of_ble_eq_true hm
  have hD : ∀ i o, ops[i]? = some o → i < m → ∀ x ∈ o.after, Region.binds .any x = true → x.on < m := fun i o ho him x hx hb => by
    have h1 := List.all_eq_true.1 hB i (List.mem_range.2 (Array.getElem?_eq_some_iff.1 ho).1)
    rw [ho] at h1
    simp only [Bool.and_eq_true] at h1
    have h2 := Array.all_eq_true_iff_forall_mem.1 h1.1 x hx
    rw [hb] at h2
    have h3 : x.on < i := by simpa [Nat.blt_eq] using h2
    omega
  refine persM_run hB gs (Nat.eq_of_beq_eq_true hl) (fun w' a' hs' hx hd => ?_) (ops.size - m) _ a w ⟨hs, by rw [hh]; exact Ext.refl _, by simp [fstB], ?_, he, ?_⟩ (fun j hjm => ?_) (by show _ ≤ _ + ((((List.range ops.size).map (fun i => Nat.blt i m)).filter id).length); rw [fst_count _ _ hmo]; omega)
  · obtain ⟨e', he', k'⟩ := needs_of fin e0 hd.1 (fun x hx => by
      have h1 := List.all_eq_true.1 hf x hx
      obtain ⟨o, ho, _⟩ := dst_of h1
      exact hd.2 x.1 x.2 (Array.getElem?_eq_some_iff.1 ho).1 h1) (k w'.heap hx)
    exact k' w' a' hs' rfl he'
  · intro i o ho hl' x hx hb
    have hi : i < ops.size := (Array.getElem?_eq_some_iff.1 ho).1
    rw [fst_get hi] at hl'
    have h1 := hD i o ho (by simpa [Nat.blt_eq] using hl') x hx hb
    rw [fst_get (by omega)]; simpa [Nat.blt_eq] using h1
  · intro j d hjl hjd
    obtain ⟨oj, hoj, _⟩ := dst_of hjd
    have hjo : j < ops.size := (Array.getElem?_eq_some_iff.1 hoj).1
    rw [fst_get hjo] at hjl
    rw [hh]
    exact hj j d (by simpa [Nat.blt_eq] using hjl) hjd
  · rw [fst_get (by omega)]; simpa [Nat.blt_eq] using hjm
end
end Go.Xp
