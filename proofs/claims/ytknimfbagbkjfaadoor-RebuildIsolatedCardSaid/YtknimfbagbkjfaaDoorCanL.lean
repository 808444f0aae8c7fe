/- The canonical form of a tree: the code's and the reference's are the same: plain. -/
import Derived.Test.YtknimfbagbkjfaaDoorCanR
set_option linter.unusedSimpArgs false
set_option linter.unusedVariables false
set_option linter.unusedSectionVars false
namespace Go.Xp

theorem nin_split {x : Nod} {A B : List Nod} (h1 : ∀ y ∈ A, ¬ nlt x y) (h2 : ∀ y, B.head? = some y → nlt x y) : nin x (A ++ B) = A ++ x :: B := by
  induction A with
  | nil =>
    cases B with
    | nil => rfl
    | cons y B => exact nin_lt (h2 y rfl)
  | cons a A ih =>
    rw [List.cons_append, nin_ge (h1 a (by simp)), ih (fun y hy => h1 y (by simp [hy]))]; rfl
theorem pcmp_pos {x y : Nod} : 0 < pcmp y.path x.path ↔ nlt x y := by
  rw [nlt_iff]
  rcases pcmp_cases y.path x.path with ⟨h1, h2⟩ | ⟨h1, h2⟩ | ⟨h1, h2⟩
  · rw [h1, less_asymm h2]; exact ⟨fun q => absurd q (by decide), fun q => by cases q⟩
  · rw [h1, h2, less_irrefl]; exact ⟨fun q => absurd q (by decide), fun q => by cases q⟩
  · rw [h1]; exact ⟨fun _ => h2, fun _ => by decide⟩
theorem ink_lo (x : Nod) (S : List Nod) : ∀ k, ink x.path S k = 0 ∨ ¬ nlt x (at_nod S (ink x.path S k - 1))
  | 0 => .inl rfl
  | k + 1 => by
    unfold ink
    split
    · exact ink_lo x S k
    · rename_i h
      exact .inr (fun q => h (pcmp_pos.2 q))
theorem ink_hi (x : Nod) (S : List Nod) : ∀ k j, ink x.path S k ≤ j → j < k → nlt x (at_nod S j)
  | 0, j, _, h => absurd h (by omega)
  | k + 1, j, h1, h2 => by
    unfold ink at h1
    split at h1
    · rename_i h
      by_cases e : j = k
      · subst e; exact pcmp_pos.1 h
      · exact ink_hi x S k j h1 (by omega)
    · omega
theorem ir_nin {S : List Nod} (h : Asc S) (x : Nod) : ir S x = nin x S := by
  have hle := ink_le x.path S S.length
  have hlo := ink_lo x S S.length
  have hhi := ink_hi x S S.length
  unfold ir
  generalize ink x.path S S.length = k at *
  conv => rhs; rw [← List.take_append_drop k S]
  refine (nin_split (fun y hy => ?_) (fun y hy => ?_)).symm
  · obtain ⟨i, q1, q2, rfl⟩ := mem_take_at hy
    rcases hlo with h0 | h0
    · omega
    · exact nle_trans (asc_at h (show i ≤ k - 1 by omega) (by omega)) h0
  · rw [List.head?_drop] at hy
    have hk : k < S.length := (List.getElem?_eq_some_iff.1 hy).1
    have := hhi k (Nat.le_refl _) hk
    unfold at_nod at this
    rw [List.getD_eq_getElem?_getD, hy] at this
    exact this
theorem fold_ir : ∀ (L S : List Nod), Asc S → L.foldl ir S = L.foldl (fun S x => nin x S) S
  | [], S, _ => rfl
  | x :: L, S, h => by rw [List.foldl_cons, List.foldl_cons, ir_nin h, fold_ir L _ (nin_asc x h)]
theorem fold_srt (L : List Nod) : L.foldl ir [] = srt L := fold_ir L [] List.Pairwise.nil

theorem nin_perm (x : Nod) : ∀ l : List Nod, (nin x l).Perm (x :: l)
  | [] => List.Perm.refl _
  | y :: l => by
    by_cases h : nlt x y
    · rw [nin_lt h]
    · rw [nin_ge h]
      exact ((nin_perm x l).cons y).trans (List.Perm.swap x y l)
theorem fold_perm : ∀ (L S : List Nod), (L.foldl (fun S x => nin x S) S).Perm (S ++ L)
  | [], S => by rw [List.append_nil]; exact List.Perm.refl _
  | x :: L, S => by
    rw [List.foldl_cons]
    refine (fold_perm L _).trans ?_
    have h1 : (nin x S ++ L).Perm ((x :: S) ++ L) := (nin_perm x S).append_right L
    exact h1.trans List.perm_middle.symm
theorem srt_perm (L : List Nod) : (srt L).Perm L := by
  have := fold_perm L []
  rw [List.nil_append] at this; exact this
/-- How many nodes have this class. -/
def ccl (L : List Nod) (c : Int) : Nat := L.countP (fun x => decide (x.cls = c))
theorem take_at {L : List Nod} {k : Nat} (h : k < L.length) : L.take (k + 1) = L.take k ++ [at_nod L k] := by
  rw [List.take_succ_eq_append_getElem h]
  unfold at_nod; rw [List.getD_eq_getElem?_getD, List.getElem?_eq_getElem h]; rfl
theorem cntf_cc (L : List Nod) (c : Int) : ∀ k, k ≤ L.length → cntf L c k = (L.take k).countP (fun x => decide (x.cls = c))
  | 0, _ => rfl
  | k + 1, h => by
    rw [take_at (by omega), List.countP_append, ← cntf_cc L c k (by omega)]
    by_cases e : (at_nod L k).cls = c
    · rw [cntf_y e]; simp [e]
    · rw [cntf_n e]; simp [e]
theorem cntf_ccl (L : List Nod) (c : Int) : cntf L c L.length = ccl L c := by rw [cntf_cc L c _ (Nat.le_refl _), List.take_length]; rfl
theorem cntm_cc (L : List Nod) (c : Int) : ∀ k, k ≤ L.length → iget (cntm L k) c = (L.take k).countP (fun x => decide (x.cls = c))
  | 0, _ => rfl
  | k + 1, h => by
    rw [take_at (by omega), List.countP_append]
    have h1 := cntm_cc L c k (by omega)
    unfold cntm
    rw [iget_iset]
    by_cases e : c = (at_nod L k).cls
    · subst e; rw [if_pos rfl, h1]; simp
    · rw [if_neg e, h1]; simp [Ne.symm e]
theorem cntm_ccl (L : List Nod) (c : Int) : iget (cntm L L.length) c = (ccl L c : Int) := by rw [cntm_cc L c _ (Nat.le_refl _), List.take_length]; rfl
theorem ccl_er (L : List Nod) (c : Int) : ccl (L.map er) c = ccl L c := by unfold ccl; rw [List.countP_map]; rfl
theorem ccl_perm {L L' : List Nod} (h : L.Perm L') (c : Int) : ccl L c = ccl L' c := h.countP_eq _

/-- The map of numbers behind these nodes. -/
def rnst (cnt : Int → Int) (M : List (Int × Int)) (x : Nod) : List (Int × Int) := if x.cls ≤ 0 ∨ cnt x.cls < 2 then M else if iget M x.cls = 0 then iset M x.cls ((M.length : Int) + 1) else M
def renM (cnt : Int → Int) (L : List Nod) (M : List (Int × Int)) : List (Int × Int) := L.foldl (rnst cnt) M
def clv (cnt : Int → Int) (M : List (Int × Int)) (x : Nod) : Int := if x.cls ≤ 0 ∨ cnt x.cls < 2 then 0 else iget M x.cls
theorem rnst_keep {cnt : Int → Int} {M : List (Int × Int)} {x : Nod} {c : Int} (h : ¬ iget M c = 0) : iget (rnst cnt M x) c = iget M c := by
  unfold rnst
  split
  · rfl
  · split
    · rename_i h0
      rw [iget_iset, if_neg (fun e : c = x.cls => h (by rw [e]; exact h0))]
    · rfl
theorem renM_keep {cnt : Int → Int} {c : Int} : ∀ (L : List Nod) (M : List (Int × Int)), ¬ iget M c = 0 → iget (renM cnt L M) c = iget M c
  | [], _, _ => rfl
  | x :: L, M, h => by
    show iget (renM cnt L (rnst cnt M x)) c = _
    rw [renM_keep L _ (by rw [rnst_keep h]; exact h), rnst_keep h]
theorem rnst_get {cnt : Int → Int} {M : List (Int × Int)} {x : Nod} (h : ¬ (x.cls ≤ 0 ∨ cnt x.cls < 2)) : ¬ iget (rnst cnt M x) x.cls = 0 := by
  unfold rnst
  rw [if_neg h]
  split
  · rw [iget_iset, if_pos rfl]; omega
  · assumption
theorem renum_map (cnt : Int → Int) : ∀ (L : List Nod) (M : List (Int × Int)), renum cnt L M = L.map (fun x => wcl x (clv cnt (renM cnt L M) x))
  | [], _ => rfl
  | x :: L, M => by
    show _ = wcl x (clv cnt (renM cnt L (rnst cnt M x)) x) :: L.map (fun y => wcl y (clv cnt (renM cnt L (rnst cnt M x)) y))
    rw [← renum_map cnt L (rnst cnt M x)]
    conv => lhs; unfold renum
    by_cases h : x.cls ≤ 0 ∨ cnt x.cls < 2
    · rw [if_pos h, show rnst cnt M x = M by unfold rnst; rw [if_pos h], show clv cnt (renM cnt L M) x = 0 by unfold clv; rw [if_pos h]]; rfl
    · have e : clv cnt (renM cnt L (rnst cnt M x)) x = iget (rnst cnt M x) x.cls := by
        unfold clv; rw [if_neg h, renM_keep L _ (rnst_get h)]
      rw [if_neg h, e]
      by_cases h0 : iget M x.cls = 0
      · rw [if_pos h0, show rnst cnt M x = iset M x.cls ((M.length : Int) + 1) by unfold rnst; rw [if_neg h, if_pos h0], iget_iset, if_pos rfl]; rfl
      · rw [if_neg h0, show rnst cnt M x = M by unfold rnst; rw [if_neg h, if_neg h0]]; rfl
theorem iset_len_new : ∀ (m : List (Int × Int)) (k v : Int), (∀ p ∈ m, ¬ p.2 = 0) → iget m k = 0 → (iset m k v).length = m.length + 1
  | [], _, _, _, _ => rfl
  | p :: m, k, v, h, h0 => by
    unfold iget at h0
    split at h0
    · exact absurd h0 (h p (by simp))
    · rename_i hk
      unfold iset
      rw [if_neg hk, List.length_cons, iset_len_new m k v (fun q hq => h q (by simp [hq])) h0]; rfl
theorem iset_vals : ∀ (m : List (Int × Int)) (k v : Int), (∀ p ∈ m, ¬ p.2 = 0) → ¬ v = 0 → ∀ p ∈ iset m k v, ¬ p.2 = 0
  | [], k, v, _, hv => fun p hp => by simp [iset] at hp; subst hp; exact hv
  | q :: m, k, v, h, hv => fun p hp => by
    unfold iset at hp
    split at hp
    · rcases List.mem_cons.1 hp with rfl | hp
      · exact hv
      · exact h p (by simp [hp])
    · rcases List.mem_cons.1 hp with rfl | hp
      · exact h _ (by simp)
      · exact iset_vals m k v (fun q hq => h q (by simp [hq])) hv p hp
theorem at_map (L : List Nod) (f : Nod → Int) {k : Nat} (h : k < L.length) : at_int (L.map f) k = f (at_nod L k) := by
  unfold at_int at_nod
  rw [List.getD_eq_getElem?_getD, List.getD_eq_getElem?_getD, List.getElem?_map, List.getElem?_eq_getElem h]; rfl
theorem cset_eq (L : List Nod) (c v : Int) (f : Nod → Int) (C : List Int) (hC : C = L.map f) : ∀ k, k ≤ L.length → cset L c v C k = (L.take k).map (fun x => if x.cls = c then v else f x) ++ (L.drop k).map f
  | 0, _ => by rw [hC]; rfl
  | k + 1, h => by
    have ih := cset_eq L c v f C hC k (by omega)
    have e : L.drop k = at_nod L k :: L.drop (k + 1) := drop_at (by omega)
    have l1 : ((L.take k).map (fun x => if x.cls = c then v else f x)).length = k := by rw [List.length_map, List.length_take]; omega
    rw [e, List.map_cons] at ih
    rw [take_at (by omega), List.map_append]
    by_cases hk : (at_nod L k).cls = c
    · rw [cset_y hk, ih, List.set_append_right _ _ (by omega), l1, Nat.sub_self]
      simp [hk]
    · rw [cset_n hk, ih]; simp [hk]
/-- The reference's classes are the code's. -/
theorem rfold_eq (L : List Nod) (cnt : Int → Int) (hc : ∀ c, cnt c = (ccl L c : Int)) : ∀ i, i ≤ L.length →
    (rfold L i).1 = L.map (clv cnt (renM cnt (L.take i) [])) ∧ (rfold L i).2 = ((renM cnt (L.take i) []).length : Int) ∧ ∀ p ∈ renM cnt (L.take i) [], ¬ p.2 = 0
  | 0, _ => by
    refine ⟨?_, rfl, fun p hp => by cases hp⟩
    show List.replicate L.length 0 = L.map (clv cnt [])
    rw [show (clv cnt [] : Nod → Int) = fun _ => 0 by funext x; unfold clv iget; split <;> rfl, List.map_const']
  | i + 1, h => by
    obtain ⟨h1, h2, h3⟩ := rfold_eq L cnt hc i (by omega)
    have eM : renM cnt (L.take (i + 1)) [] = rnst cnt (renM cnt (L.take i) []) (at_nod L i) := by
      unfold renM; rw [take_at (by omega), List.foldl_append]; rfl
    rw [eM]
    generalize renM cnt (L.take i) [] = M at *
    have hC : at_int (rfold L i).1 i = clv cnt M (at_nod L i) := by rw [h1, at_map _ _ (by omega)]
    by_cases c1 : (at_nod L i).cls ≤ 0 ∨ ¬ at_int (rfold L i).1 i = 0
    · rw [rfold_a c1]
      have : rnst cnt M (at_nod L i) = M := by
        unfold rnst
        split
        · rfl
        · rename_i q
          rw [hC, show clv cnt M (at_nod L i) = iget M (at_nod L i).cls by unfold clv; rw [if_neg q]] at c1
          rcases c1 with c1 | c1
          · exact absurd (.inl c1) q
          · rw [if_neg c1]
      rw [this]; exact ⟨h1, h2, h3⟩
    · have c1' : ¬ (at_nod L i).cls ≤ 0 ∧ at_int (rfold L i).1 i = 0 := by
        constructor
        · exact fun q => c1 (.inl q)
        · exact Classical.not_not.1 (fun q => c1 (.inr q))
      by_cases c2 : cntf L (at_nod L i).cls L.length < 2
      · rw [rfold_b c1 c2]
        have : rnst cnt M (at_nod L i) = M := by
          unfold rnst
          rw [if_pos (.inr (by rw [hc, ← cntf_ccl]; omega))]
        rw [this]; exact ⟨h1, h2, h3⟩
      · rw [rfold_c c1 c2]
        have hq : ¬ ((at_nod L i).cls ≤ 0 ∨ cnt (at_nod L i).cls < 2) := by
          rw [hc, ← cntf_ccl]; rintro (q | q)
          · exact c1'.1 q
          · omega
        have h0 : iget M (at_nod L i).cls = 0 := by
          have := c1'.2
          rw [hC, show clv cnt M (at_nod L i) = iget M (at_nod L i).cls by unfold clv; rw [if_neg hq]] at this; exact this
        have eS : rnst cnt M (at_nod L i) = iset M (at_nod L i).cls ((M.length : Int) + 1) := by unfold rnst; rw [if_neg hq, if_pos h0]
        rw [eS]
        refine ⟨?_, ?_, iset_vals _ _ _ h3 (by omega)⟩
        · show cset L (at_nod L i).cls ((rfold L i).2 + 1) (rfold L i).1 L.length = _
          rw [cset_eq L _ _ (clv cnt M) _ h1 _ (Nat.le_refl _), List.take_length, List.drop_length, List.map_nil, List.append_nil, h2]
          refine List.map_congr_left (fun x hx => ?_)
          unfold clv
          rw [iget_iset]
          by_cases e : x.cls = (at_nod L i).cls
          · rw [if_pos e, if_pos e, if_neg (by rw [e]; exact hq)]
          · rw [if_neg e, if_neg e]
        · show (rfold L i).2 + 1 = _
          rw [iset_len_new _ _ _ h3 h0, h2]; rfl
theorem wcs_at (L : List Nod) (C : List Int) : ∀ k, k ≤ L.length → wcs L C k = (L.take k).mapIdx (fun j x => wcl x (at_int C j)) ++ L.drop k
  | 0, _ => rfl
  | k + 1, h => by
    have ih := wcs_at L C k (by omega)
    have e : L.drop k = at_nod L k :: L.drop (k + 1) := drop_at (by omega)
    have l1 : ((L.take k).mapIdx (fun j x => wcl x (at_int C j))).length = k := by rw [List.length_mapIdx, List.length_take]; omega
    rw [e] at ih
    have e2 : at_nod (wcs L C k) k = at_nod L k := by
      have := at_app ((L.take k).mapIdx (fun j x => wcl x (at_int C j))) (at_nod L k) (L.drop (k + 1))
      rw [l1] at this; rw [ih]; exact this
    unfold wcs
    rw [e2, ih, take_at (by omega), List.mapIdx_append, List.set_append_right _ _ (by omega), l1, Nat.sub_self]
    have l2 : (L.take k).length = k := by rw [List.length_take]; omega
    simp [l2]
theorem rcn_cno (L : List Nod) : rcn L = cno L := by
  unfold rcn cno
  rw [fold_srt]
  have hl : (srt (L.map er)).length = L.length := by simp
  have hc : ∀ c, (fun c => iget (cntm L L.length) c) c = (ccl (srt (L.map er)) c : Int) := fun c => by
    show iget (cntm L L.length) c = _
    rw [cntm_ccl, ccl_perm (srt_perm _), ccl_er]
  generalize (fun c => iget (cntm L L.length) c) = cnt at *
  generalize srt (L.map er) = T at *
  rw [← hl]
  have h1 := (rfold_eq T cnt hc T.length (Nat.le_refl _)).1
  rw [List.take_length] at h1
  rw [wcs_at _ _ _ (Nat.le_refl _), List.take_length, List.drop_length, List.append_nil, renum_map, h1]
  apply List.ext_getElem
  · simp
  · intro i q1 q2
    simp at q1
    rw [List.getElem_mapIdx, List.getElem_map, at_map _ _ q1]
    unfold at_nod
    rw [List.getD_eq_getElem?_getD, List.getElem?_eq_getElem q1]; rfl
theorem nsame_er {x y : Nod} : nsame x y ↔ er x = er y := by
  unfold nsame er
  constructor
  · rintro ⟨⟨⟨⟨⟨h1, h2⟩, h3⟩, h4⟩, h5⟩, h6⟩; rw [h1, h2, h3, h4, h5, h6]
  · intro h; injection h with h1 h2 h3 h4 h5 h6 h7; exact ⟨⟨⟨⟨⟨h1, h2⟩, h3⟩, h4⟩, h7⟩, h6⟩
theorem lsame_er {a b : List Nod} : lsame a b = true ↔ a.map er = b.map er := by
  rw [lsame_iff]
  constructor
  · rintro ⟨h1, h2⟩
    apply List.ext_getElem
    · simp [h1]
    · intro i q1 q2
      simp at q1 q2
      have := nsame_er.1 (h2 i q1)
      unfold at_nod at this
      rw [List.getD_eq_getElem?_getD, List.getD_eq_getElem?_getD, List.getElem?_eq_getElem q1, List.getElem?_eq_getElem q2] at this
      simp only [List.getElem_map]; exact this
  · intro h
    have hl : a.length = b.length := by have := congrArg List.length h; simpa using this
    refine ⟨hl, fun k hk => nsame_er.2 ?_⟩
    rw [← at_er, ← at_er, h]
theorem map_er_er (L : List Nod) : (L.map er).map er = L.map er := by rw [List.map_map]; rfl
theorem cno_er (L : List Nod) : (cno L).map er = cno L := by unfold cno; rw [renum_er, srt_er, map_er_er]
theorem cno_len (L : List Nod) : (cno L).length = L.length := by unfold cno; simp
/-- What holds of a node's text and data in the argument, holds in the canonical form. -/
theorem cno_all {P : List UInt8 → List UInt8 → List UInt8 → Prop} {L : List Nod} (h : ∀ x ∈ L, P x.path x.target x.data) : ∀ x ∈ cno L, P x.path x.target x.data := fun x hx => by
  unfold cno at hx
  rw [renum_map] at hx
  obtain ⟨y, hy, rfl⟩ := List.mem_map.1 hx
  obtain ⟨z, hz, rfl⟩ := List.mem_map.1 ((srt_mem _ _).1 hy)
  exact h z hz
theorem can_all {P : List UInt8 → List UInt8 → List UInt8 → Prop} {a A : List Nod} {n : Nat} (h1 : a.length = n ∧ a.map er = cno A) (h : ∀ x ∈ A, P x.path x.target x.data) : ∀ x ∈ a, P x.path x.target x.data := fun x hx =>
  cno_all (P := P) h (er x) (by rw [← h1.2]; exact List.mem_map_of_mem hx)
end Go.Xp
