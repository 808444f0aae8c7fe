/- The canonical form of a tree: valid again, the same again, and the same for every order and numbering: plain. -/
import Derived.Test.YtknimfbagbkjfaaDoorCanL
import Derived.Test.YtknimfbagbkjfaaDoorTreeP
set_option linter.unusedSimpArgs false
set_option linter.unusedVariables false
set_option linter.unusedSectionVars false
namespace Go.Xp

/-- A valid tree as a set of nodes. -/
structure TSet (L : List Nod) : Prop where
  one : ∀ x ∈ L, tone x = 0
  dup : L.Pairwise (fun x y => ¬ x.path = y.path)
  par : ∀ x ∈ L, pparent x.path = [] ∨ ∃ y ∈ L, y.kind = 0 ∧ y.path = pparent x.path
  agr : ∀ x ∈ L, ∀ y ∈ L, x.cls = y.cls → ¬ y.cls = 0 → x.mode = y.mode ∧ x.data = y.data
theorem mem_at {L : List Nod} {x : Nod} (h : x ∈ L) : ∃ k, k < L.length ∧ at_nod L k = x := by
  obtain ⟨k, hk, rfl⟩ := List.getElem_of_mem h
  exact ⟨k, hk, by unfold at_nod; rw [List.getD_eq_getElem?_getD, List.getElem?_eq_getElem hk]; rfl⟩
theorem TOk.set {L : List Nod} (h : TOk L) : TSet L := by
  refine ⟨fun x hx => ?_, ?_, fun x hx => ?_, fun x hx y hy => ?_⟩
  · obtain ⟨k, hk, rfl⟩ := mem_at hx; exact h.one k hk
  · rw [List.pairwise_iff_getElem]
    intro i j hi hj hij
    have := h.dup i j hij hj
    rw [nod_eq hi, nod_eq hj] at this; exact this
  · obtain ⟨k, hk, rfl⟩ := mem_at hx
    rcases fnd_iff.1 (h.par k hk) with h1 | ⟨j, hj, h1, h2⟩
    · exact .inl h1
    · exact .inr ⟨_, can_mem hj, h1, h2⟩
  · obtain ⟨j, hj, rfl⟩ := mem_at hx
    obtain ⟨k, hk, rfl⟩ := mem_at hy
    exact h.agr j k hj hk
theorem TSet.ok {L : List Nod} (h : TSet L) : TOk L := by
  refine ⟨fun k hk => h.one _ (can_mem hk), fun j k hj hk => ?_, fun k hk => ?_, fun j k hj hk => h.agr _ (can_mem hj) _ (can_mem hk)⟩
  · have := List.pairwise_iff_getElem.1 h.dup j k (by omega) hk hj
    rw [nod_eq hk, nod_eq (show j < L.length by omega)]; exact this
  · rw [fnd_iff]
    rcases h.par _ (can_mem hk) with h1 | ⟨y, hy, h1, h2⟩
    · exact .inl h1
    · obtain ⟨j, hj, rfl⟩ := mem_at hy
      exact .inr ⟨j, hj, h1, h2⟩
theorem TSet.perm {L L' : List Nod} (h : TSet L) (p : L.Perm L') : TSet L' :=
  ⟨fun x hx => h.one x (p.mem_iff.2 hx), (p.pairwise_iff (fun {x y} q e => q e.symm)).1 h.dup,
   fun x hx => (h.par x (p.mem_iff.2 hx)).imp id (fun ⟨y, hy, q⟩ => ⟨y, p.mem_iff.1 hy, q⟩),
   fun x hx y hy => h.agr x (p.mem_iff.2 hx) y (p.mem_iff.2 hy)⟩
/-- Other classes. -/
theorem TSet.map {L : List Nod} (h : TSet L) {g : Nod → Nod} (hk : ∀ x ∈ L, (g x).kind = x.kind ∧ (g x).path = x.path ∧ (g x).mode = x.mode ∧ (g x).target = x.target ∧ (g x).data = x.data)
    (h0 : ∀ x ∈ L, (g x).cls = 0 ∨ (0 ≤ (g x).cls ∧ x.kind = 1)) (hi : ∀ x ∈ L, ∀ y ∈ L, (g x).cls = (g y).cls → ¬ (g y).cls = 0 → x.cls = y.cls ∧ ¬ y.cls = 0) : TSet (L.map g) := by
  refine ⟨fun z hz => ?_, ?_, fun z hz => ?_, fun z hz w hw => ?_⟩
  · obtain ⟨x, hx, rfl⟩ := List.mem_map.1 hz
    obtain ⟨k1, k2, k3, k4, k5⟩ := hk x hx
    have h1 := h.one x hx
    have e : nfc (g x) = nfc x := by unfold nfc nsize; rw [k1, k2, k3, k4, k5]
    unfold tone at h1 ⊢
    rw [k1, e, k5]
    split at h1
    · cases h1
    · rename_i a1
      rw [if_neg a1]
      split at h1
      · rename_i a2; exact absurd h1 a2
      · rename_i a2
        rw [if_neg a2]
        split at h1
        · cases h1
        · rename_i a3
          rw [if_neg a3, if_neg]
          rcases h0 x hx with q | ⟨q1, q2⟩
          · rw [q]; rintro (r | r)
            · exact absurd r (by decide)
            · exact r.2 rfl
          · rintro (r | r)
            · omega
            · exact r.1 q2
  · rw [List.pairwise_map]
    exact h.dup.imp_of_mem (fun {x y} hx hy q => by rw [(hk x hx).2.1, (hk y hy).2.1]; exact q)
  · obtain ⟨x, hx, rfl⟩ := List.mem_map.1 hz
    rw [(hk x hx).2.1]
    refine (h.par x hx).imp id (fun ⟨y, hy, q1, q2⟩ => ⟨g y, List.mem_map_of_mem hy, by rw [(hk y hy).1]; exact q1, by rw [(hk y hy).2.1]; exact q2⟩)
  · obtain ⟨x, hx, rfl⟩ := List.mem_map.1 hz
    obtain ⟨y, hy, rfl⟩ := List.mem_map.1 hw
    intro e hn
    obtain ⟨q1, q2⟩ := hi x hx y hy e hn
    rw [(hk x hx).2.2.1, (hk y hy).2.2.1, (hk x hx).2.2.2.2, (hk y hy).2.2.2.2]
    exact h.agr x hx y hy q1 q2
theorem tone_cls {x : Nod} (h : tone x = 0) : x.cls = 0 ∨ (0 < x.cls ∧ x.kind = 1) := by
  unfold tone at h
  split at h
  · cases h
  · split at h
    · rename_i a; exact absurd h a
    · split at h
      · cases h
      · split at h
        · cases h
        · rename_i a
          by_cases e : x.cls = 0
          · exact .inl e
          · refine .inr ⟨?_, ?_⟩
            · have : ¬ x.cls < 0 := fun q => a (.inl q)
              omega
            · exact Classical.not_not.1 (fun q => a (.inr ⟨q, e⟩))
theorem TSet.er {L : List Nod} (h : TSet L) : TSet (L.map er) := h.map (fun x _ => ⟨rfl, rfl, rfl, rfl, rfl⟩) (fun x hx => (tone_cls (h.one x hx)).imp id (fun q => ⟨Int.le_of_lt q.1, q.2⟩)) (fun x _ y _ e hn => ⟨e, hn⟩)

/-- What holds of the map of numbers. -/
structure Num (M : List (Int × Int)) : Prop where
  rng : ∀ c, 0 ≤ iget M c ∧ iget M c ≤ M.length
  inj : ∀ c c', iget M c = iget M c' → ¬ iget M c = 0 → c = c'
  nz : ∀ p ∈ M, ¬ p.2 = 0
theorem Num.nil : Num [] := ⟨fun c => ⟨Int.le_refl _, Int.le_refl _⟩, fun c c' _ h => absurd rfl h, fun p hp => by cases hp⟩
theorem Num.step {M : List (Int × Int)} (h : Num M) (cnt : Int → Int) (x : Nod) : Num (rnst cnt M x) := by
  unfold rnst
  split
  · exact h
  · split
    · rename_i h1 h0
      have hl := iset_len_new M x.cls ((M.length : Int) + 1) h.nz h0
      refine ⟨fun c => ?_, fun c c' => ?_, iset_vals _ _ _ h.nz (by omega)⟩
      · rw [iget_iset, hl]
        have := h.rng c
        split <;> omega
      · rw [iget_iset, iget_iset]
        have r1 := h.rng c
        have r2 := h.rng c'
        split
        · split
          · rename_i e1 e2; intro _ _; rw [e1, e2]
          · intro q _; omega
        · split
          · intro q _; omega
          · exact h.inj c c'
    · exact h
theorem Num.fold (cnt : Int → Int) : ∀ (L : List Nod) (M : List (Int × Int)), Num M → Num (renM cnt L M)
  | [], M, h => h
  | x :: L, M, h => Num.fold cnt L _ (h.step cnt x)
/-- The nodes whose class stays. -/
def Rea (cnt : Int → Int) (x : Nod) : Prop := ¬ (x.cls ≤ 0 ∨ cnt x.cls < 2)
theorem renM_get (cnt : Int → Int) : ∀ (L : List Nod) (M : List (Int × Int)) (x : Nod), x ∈ L → Rea cnt x → ¬ iget (renM cnt L M) x.cls = 0
  | y :: L, M, x, hx, hr => by
    show ¬ iget (renM cnt L (rnst cnt M y)) x.cls = 0
    rcases List.mem_cons.1 hx with rfl | hx
    · rw [renM_keep L _ (rnst_get hr)]; exact rnst_get hr
    · exact renM_get cnt L _ x hx hr
theorem clv_pos {cnt : Int → Int} {L : List Nod} {x : Nod} (hx : x ∈ L) (hr : Rea cnt x) : 0 < clv cnt (renM cnt L []) x := by
  have h1 := renM_get cnt L [] x hx hr
  have h2 := (Num.fold cnt L [] Num.nil).rng x.cls
  unfold clv
  rw [if_neg hr]; omega
theorem clv_inj {cnt : Int → Int} {L : List Nod} {x y : Nod} (hx : x ∈ L) (h : clv cnt (renM cnt L []) x = clv cnt (renM cnt L []) y) (h0 : ¬ clv cnt (renM cnt L []) y = 0) : x.cls = y.cls ∧ Rea cnt y := by
  have hN := Num.fold cnt L [] Num.nil
  have hy : Rea cnt y := by
    intro q
    apply h0
    unfold clv; rw [if_pos q]
  have hx' : Rea cnt x := by
    intro q
    apply h0
    rw [← h]; unfold clv; rw [if_pos q]
  unfold clv at h h0
  rw [if_neg hx', if_neg hy] at h
  rw [if_neg hy] at h0
  exact ⟨hN.inj _ _ h (by rw [h]; exact h0), hy⟩
theorem TSet.cno {L : List Nod} (h : TSet L) : TSet (cno L) := by
  have hT := (h.er).perm (srt_perm (L.map Go.Xp.er)).symm
  unfold Go.Xp.cno
  rw [renum_map]
  refine hT.map (fun x _ => ⟨rfl, rfl, rfl, rfl, rfl⟩) (fun x hx => ?_) (fun x hx y hy e hn => ?_)
  · show clv _ _ x = 0 ∨ (0 ≤ clv _ _ x ∧ _)
    by_cases hr : Rea (fun c => iget (cntm L L.length) c) x
    · refine .inr ⟨Int.le_of_lt (clv_pos hx hr), ?_⟩
      rcases tone_cls (hT.one x hx) with q | q
      · exact absurd (.inl (by omega)) hr
      · exact q.2
    · refine .inl ?_
      unfold clv; rw [if_pos (Classical.not_not.1 hr)]
  · have e' : clv _ _ x = clv _ _ y := e
    obtain ⟨q1, q2⟩ := clv_inj hx e' hn
    exact ⟨q1, fun q => q2 (.inl (by omega))⟩

theorem srt_self : ∀ {L : List Nod}, Asc L → srt L = L := fun {L} h => by
  have : ∀ (L S : List Nod), Asc (S ++ L) → L.foldl (fun S x => nin x S) S = S ++ L := by
    intro L
    induction L with
    | nil => intro S _; rw [List.append_nil]; rfl
    | cons x L ih =>
      intro S hS
      rw [List.foldl_cons, nin_end (fun y hy => (List.pairwise_append.1 hS).2.2 y hy x (by simp)), ih (S ++ [x]) (by simpa using hS)]
      simp
  exact this L [] h
theorem asc_map {L : List Nod} (h : Asc L) {g : Nod → Nod} (hg : ∀ x ∈ L, (g x).path = x.path) : Asc (L.map g) := by
  unfold Asc
  rw [List.pairwise_map]
  refine h.imp_of_mem (fun {x y} hx hy q => ?_)
  rw [nlt_iff] at q ⊢
  rw [hg x hx, hg y hy]; exact q
theorem cno_asc (L : List Nod) : Asc (cno L) := by
  unfold cno
  rw [renum_map]
  exact asc_map (srt_asc _) (fun _ _ => rfl)
/-- Another numbering of the classes changes nothing. -/
theorem renum_ren {W : List Nod} {φ : Int → Int} {cnt cnt' : Int → Int} (hr : ∀ x ∈ W, (φ x.cls ≤ 0 ∨ cnt' (φ x.cls) < 2) ↔ (x.cls ≤ 0 ∨ cnt x.cls < 2))
    (hi : ∀ x ∈ W, ∀ y ∈ W, Rea cnt x → Rea cnt y → φ x.cls = φ y.cls → x.cls = y.cls) : ∀ (T : List Nod) (M M' : List (Int × Int)), (∀ x ∈ T, x ∈ W) → M.length = M'.length → (∀ p ∈ M, ¬ p.2 = 0) → (∀ p ∈ M', ¬ p.2 = 0) →
      (∀ x ∈ W, Rea cnt x → iget M' (φ x.cls) = iget M x.cls) → renum cnt' (T.map fun x => wcl x (φ x.cls)) M' = renum cnt T M
  | [], _, _, _, _, _, _, _ => rfl
  | x :: T, M, M', hT, hl, hz, hz', hM => by
    have hx := hT x (by simp)
    rw [List.map_cons]
    unfold renum
    show (if φ x.cls ≤ 0 ∨ cnt' (φ x.cls) < 2 then _ else _) = _
    by_cases h : x.cls ≤ 0 ∨ cnt x.cls < 2
    · rw [if_pos h, if_pos ((hr x hx).2 h), renum_ren hr hi T M M' (fun y hy => hT y (by simp [hy])) hl hz hz' hM]; rfl
    · rw [if_neg h, if_neg (fun q => h ((hr x hx).1 q))]
      have e := hM x hx h
      show (if iget M' (φ x.cls) = 0 then _ else _) = _
      by_cases h0 : iget M x.cls = 0
      · rw [if_pos h0, if_pos (by rw [e]; exact h0)]
        have h0' : iget M' (φ x.cls) = 0 := by rw [e]; exact h0
        show _ :: renum cnt' _ (iset M' (φ x.cls) ((M'.length : Int) + 1)) = _
        rw [renum_ren hr hi T (iset M x.cls ((M.length : Int) + 1)) (iset M' (φ x.cls) ((M'.length : Int) + 1)) (fun y hy => hT y (by simp [hy])) (by rw [iset_len_new _ _ _ hz h0, iset_len_new _ _ _ hz' h0', hl]) (iset_vals _ _ _ hz (by omega)) (iset_vals _ _ _ hz' (by omega)) (fun y hy hry => by
          rw [iget_iset, iget_iset]
          by_cases ey : y.cls = x.cls
          · rw [if_pos ey, if_pos (by rw [ey]), hl]
          · rw [if_neg ey, if_neg (fun q => ey (hi y hy x hx hry h q))]; exact hM y hy hry)]
        rw [← hl]; rfl
      · rw [if_neg h0, if_neg (by rw [e]; exact h0), renum_ren hr hi T M M' (fun y hy => hT y (by simp [hy])) hl hz hz' hM]
        show { wcl x (φ x.cls) with cls := iget M' (φ x.cls) } :: _ = _
        rw [e]; rfl
theorem ccl_congr {T : List Nod} {f : Nod → Nod} {c c' : Int} (h : ∀ x ∈ T, (f x).cls = c' ↔ x.cls = c) : ccl (T.map f) c' = ccl T c := by
  unfold ccl
  rw [List.countP_map]
  refine List.countP_congr (fun x hx => ?_)
  simp only [Function.comp, decide_eq_true_eq]
  exact h x hx
theorem cnt_ccl (L : List Nod) : (fun c => iget (cntm L L.length) c) = fun c => (ccl L c : Int) := funext fun c => cntm_ccl L c
/-- The canonical form, its classes counted in the list. -/
theorem cno_ccl (L : List Nod) : cno L = renum (fun c => (ccl L c : Int)) (srt (L.map er)) [] := by unfold cno; rw [cnt_ccl]
theorem cno_idem (L : List Nod) : cno (cno L) = cno L := by
  have hasc := cno_asc L
  have her := cno_er L
  conv => lhs; rw [cno_ccl]
  rw [her, srt_self hasc]
  have eT : ∀ c, ccl L c = ccl (srt (L.map er)) c := fun c => by rw [ccl_perm (srt_perm _), ccl_er]
  rw [cno_ccl L, show (fun c => (ccl L c : Int)) = fun c => (ccl (srt (L.map er)) c : Int) from funext fun c => by rw [eT]]
  generalize srt (L.map er) = T
  have eC : renum (fun c => (ccl T c : Int)) T [] = T.map fun x => wcl x ((fun c => if c ≤ 0 ∨ (ccl T c : Int) < 2 then 0 else iget (renM (fun c => (ccl T c : Int)) T []) c) x.cls) := renum_map _ _ _
  conv => lhs; rw [eC]
  refine renum_ren (W := T) (φ := fun c => if c ≤ 0 ∨ (ccl T c : Int) < 2 then 0 else iget (renM (fun c => (ccl T c : Int)) T []) c) (fun x hx => ?_) (fun x hx y hy hrx hry e => ?_) T [] [] (fun x hx => hx) rfl (fun p hp => by cases hp) (fun p hp => by cases hp) (fun x hx _ => rfl)
  · show (clv (fun c => (ccl T c : Int)) (renM (fun c => (ccl T c : Int)) T []) x ≤ 0 ∨ ((ccl (T.map fun x => wcl x (clv (fun c => (ccl T c : Int)) (renM (fun c => (ccl T c : Int)) T []) x)) (clv (fun c => (ccl T c : Int)) (renM (fun c => (ccl T c : Int)) T []) x) : Nat) : Int) < 2) ↔ _
    by_cases h : x.cls ≤ 0 ∨ (ccl T x.cls : Int) < 2
    · exact ⟨fun _ => h, fun _ => .inl (by unfold clv; rw [if_pos h]; exact Int.le_refl _)⟩
    · have hp := clv_pos (cnt := fun c => (ccl T c : Int)) hx h
      rw [ccl_congr (c := x.cls) (fun y hy => ?_)]
      · constructor
        · rintro (q | q)
          · omega
          · exact .inr q
        · intro q; exact absurd q h
      · show clv (fun c => (ccl T c : Int)) (renM (fun c => (ccl T c : Int)) T []) y = clv (fun c => (ccl T c : Int)) (renM (fun c => (ccl T c : Int)) T []) x ↔ _
        constructor
        · intro q; exact (clv_inj hy q (by omega)).1
        · intro q; unfold clv; rw [q]
  · have := clv_pos (cnt := fun c => (ccl T c : Int)) hy hry
    exact (clv_inj (cnt := fun c => (ccl T c : Int)) hx e (by omega)).1
end Go.Xp
