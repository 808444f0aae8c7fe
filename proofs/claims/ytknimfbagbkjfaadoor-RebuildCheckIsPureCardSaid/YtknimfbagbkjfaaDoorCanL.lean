/- Appending to an empty row without room: nothing that stood before is written. -/
import Derived.Test.YtknimfbagbkjfaaDoorRws
import Derived.Test.YtknimfbagbkjfaaDoorBufR
import Derived.Test.YtknimfbagbkjfaaDoorCanA
import Derived.Test.YtknimfbagbkjfaaDoorTreeR
set_option linter.unusedSimpArgs false
set_option linter.unusedVariables false
set_option linter.unusedSectionVars false
namespace Go.Xp

section
variable {P : Program} {n : Nat} {e : Env} {h : Heap} {d : Option Tmp} {t : TypeId} {pos : String} {af : Array Edge} {g : Option (Nat × Bool)}
variable {T E : TypeId} {x y : Operand} {v u : Value} {β : Type} {S : Sch β} {l2 : List β} {z base : Nat}
/-- An empty row of the call's own, without room. -/
structure RowsE (S : Sch β) (h : Heap) (base : Nat) (v : Value) : Prop where
  own : RowsO S h base v []
  cap : capOf v = 0
theorem RowsE.ext {h' : Heap} (x : RowsE S h base v) (y : Ext h h') : RowsE S h' base v := ⟨x.own.ext y, x.cap⟩
theorem RowsE.low {base' : Nat} (x : RowsE S h base v) (hb : base' ≤ base) : RowsE S h base' v := ⟨x.own.low hb, x.cap⟩
end
end Go.Xp

/- A field stored into a row of structs that the call itself has made by appending; a made row of ints. -/
set_option linter.unusedSimpArgs false
set_option linter.unusedVariables false
set_option linter.unusedSectionVars false
namespace Go.Xp

section
variable {P : Program} {n : Nat} {e : Env} {h : Heap} {d : Option Tmp} {t : TypeId} {pos : String} {af : Array Edge} {g : Option (Nat × Bool)}
variable {T E : TypeId} {x y lo hi : Operand} {β : Type} {S : Sch β} [Sch2 S] {base k z off : Nat} {v u : Value} {l : List β}
end
end Go.Xp

/- The reference's canonical form of a tree: what the code does, step by step. -/
set_option linter.unusedSimpArgs false
set_option linter.unusedVariables false
set_option linter.unusedSectionVars false
namespace Go.Xp
open Go.Proofs

theorem at_er (L : List Nod) (k : Nat) : at_nod (L.map er) k = er (at_nod L k) := by
  unfold at_nod
  rw [List.getD_eq_getElem?_getD, List.getD_eq_getElem?_getD, List.getElem?_map]
  cases L[k]? <;> rfl
end Go.Xp

/- The canonical form of a tree: the code's and the reference's are the same: plain. -/
set_option linter.unusedSimpArgs false
set_option linter.unusedVariables false
set_option linter.unusedSectionVars false
namespace Go.Xp

theorem nin_perm (x : Nod) : ∀ l : List Nod, (nin x l).Perm (x :: l)
  | [] => List.Perm.refl _
  | y :: l => by
    by_cases h : nlt x y
    · rw [nin_lt h]
    · rw [nin_ge h]
      exact ((nin_perm x l).cons y).trans (List.Perm.swap x y l)
theorem fold_perm : ∀ (L S : List Nod), (L.foldl (fun S x => nin x S) S).Perm (S ++ L)
  | [], S => by rw [List.append_nil]; exact List.Perm.refl _
  | x :: L, S => by
    rw [List.foldl_cons]
    refine (fold_perm L _).trans ?_
    have h1 : (nin x S ++ L).Perm ((x :: S) ++ L) := (nin_perm x S).append_right L
    exact h1.trans List.perm_middle.symm
theorem srt_perm (L : List Nod) : (srt L).Perm L := by
  have := fold_perm L []
  rw [List.nil_append] at this; exact this
/-- How many nodes have this class. -/
def ccl (L : List Nod) (c : Int) : Nat := L.countP (fun x => decide (x.cls = c))
theorem take_at {L : List Nod} {k : Nat} (h : k < L.length) : L.take (k + 1) = L.take k ++ [at_nod L k] := by
  rw [List.take_succ_eq_append_getElem h]
  unfold at_nod; rw [List.getD_eq_getElem?_getD, List.getElem?_eq_getElem h]; rfl
theorem cntm_cc (L : List Nod) (c : Int) : ∀ k, k ≤ L.length → iget (cntm L k) c = (L.take k).countP (fun x => decide (x.cls = c))
  | 0, _ => rfl
  | k + 1, h => by
    rw [take_at (by omega), List.countP_append]
    have h1 := cntm_cc L c k (by omega)
    unfold cntm
    rw [iget_iset]
    by_cases e : c = (at_nod L k).cls
    · subst e; rw [if_pos rfl, h1]; simp
    · rw [if_neg e, h1]; simp [Ne.symm e]
theorem cntm_ccl (L : List Nod) (c : Int) : iget (cntm L L.length) c = (ccl L c : Int) := by rw [cntm_cc L c _ (Nat.le_refl _), List.take_length]; rfl
theorem ccl_er (L : List Nod) (c : Int) : ccl (L.map er) c = ccl L c := by unfold ccl; rw [List.countP_map]; rfl
theorem ccl_perm {L L' : List Nod} (h : L.Perm L') (c : Int) : ccl L c = ccl L' c := h.countP_eq _

/-- The map of numbers behind these nodes. -/
def rnst (cnt : Int → Int) (M : List (Int × Int)) (x : Nod) : List (Int × Int) := if x.cls ≤ 0 ∨ cnt x.cls < 2 then M else if iget M x.cls = 0 then iset M x.cls ((M.length : Int) + 1) else M
def renM (cnt : Int → Int) (L : List Nod) (M : List (Int × Int)) : List (Int × Int) := L.foldl (rnst cnt) M
def clv (cnt : Int → Int) (M : List (Int × Int)) (x : Nod) : Int := if x.cls ≤ 0 ∨ cnt x.cls < 2 then 0 else iget M x.cls
theorem rnst_keep {cnt : Int → Int} {M : List (Int × Int)} {x : Nod} {c : Int} (h : ¬ iget M c = 0) : iget (rnst cnt M x) c = iget M c := by
  unfold rnst
  split
  · rfl
  · split
    · rename_i h0
      rw [iget_iset, if_neg (fun e : c = x.cls => h (by rw [e]; exact h0))]
    · rfl
theorem renM_keep {cnt : Int → Int} {c : Int} : ∀ (L : List Nod) (M : List (Int × Int)), ¬ iget M c = 0 → iget (renM cnt L M) c = iget M c
  | [], _, _ => rfl
  | x :: L, M, h => by
    show iget (renM cnt L (rnst cnt M x)) c = _
    rw [renM_keep L _ (by rw [rnst_keep h]; exact h), rnst_keep h]
theorem rnst_get {cnt : Int → Int} {M : List (Int × Int)} {x : Nod} (h : ¬ (x.cls ≤ 0 ∨ cnt x.cls < 2)) : ¬ iget (rnst cnt M x) x.cls = 0 := by
  unfold rnst
  rw [if_neg h]
  split
  · rw [iget_iset, if_pos rfl]; omega
  · assumption
theorem renum_map (cnt : Int → Int) : ∀ (L : List Nod) (M : List (Int × Int)), renum cnt L M = L.map (fun x => wcl x (clv cnt (renM cnt L M) x))
  | [], _ => rfl
  | x :: L, M => by
    show _ = wcl x (clv cnt (renM cnt L (rnst cnt M x)) x) :: L.map (fun y => wcl y (clv cnt (renM cnt L (rnst cnt M x)) y))
    rw [← renum_map cnt L (rnst cnt M x)]
    conv => lhs; unfold renum
    by_cases h : x.cls ≤ 0 ∨ cnt x.cls < 2
    · rw [if_pos h, show rnst cnt M x = M by unfold rnst; rw [if_pos h], show clv cnt (renM cnt L M) x = 0 by unfold clv; rw [if_pos h]]; rfl
    · have e : clv cnt (renM cnt L (rnst cnt M x)) x = iget (rnst cnt M x) x.cls := by
        unfold clv; rw [if_neg h, renM_keep L _ (rnst_get h)]
      rw [if_neg h, e]
      by_cases h0 : iget M x.cls = 0
      · rw [if_pos h0, show rnst cnt M x = iset M x.cls ((M.length : Int) + 1) by unfold rnst; rw [if_neg h, if_pos h0], iget_iset, if_pos rfl]; rfl
      · rw [if_neg h0, show rnst cnt M x = M by unfold rnst; rw [if_neg h, if_neg h0]]; rfl
theorem iset_len_new : ∀ (m : List (Int × Int)) (k v : Int), (∀ p ∈ m, ¬ p.2 = 0) → iget m k = 0 → (iset m k v).length = m.length + 1
  | [], _, _, _, _ => rfl
  | p :: m, k, v, h, h0 => by
    unfold iget at h0
    split at h0
    · exact absurd h0 (h p (by simp))
    · rename_i hk
      unfold iset
      rw [if_neg hk, List.length_cons, iset_len_new m k v (fun q hq => h q (by simp [hq])) h0]; rfl
theorem iset_vals : ∀ (m : List (Int × Int)) (k v : Int), (∀ p ∈ m, ¬ p.2 = 0) → ¬ v = 0 → ∀ p ∈ iset m k v, ¬ p.2 = 0
  | [], k, v, _, hv => fun p hp => by simp [iset] at hp; subst hp; exact hv
  | q :: m, k, v, h, hv => fun p hp => by
    unfold iset at hp
    split at hp
    · rcases List.mem_cons.1 hp with rfl | hp
      · exact hv
      · exact h p (by simp [hp])
    · rcases List.mem_cons.1 hp with rfl | hp
      · exact h _ (by simp)
      · exact iset_vals m k v (fun q hq => h q (by simp [hq])) hv p hp
theorem nsame_er {x y : Nod} : nsame x y ↔ er x = er y := by
  unfold nsame er
  constructor
  · rintro ⟨⟨⟨⟨⟨h1, h2⟩, h3⟩, h4⟩, h5⟩, h6⟩; rw [h1, h2, h3, h4, h5, h6]
  · intro h; injection h with h1 h2 h3 h4 h5 h6 h7; exact ⟨⟨⟨⟨⟨h1, h2⟩, h3⟩, h4⟩, h7⟩, h6⟩
theorem lsame_er {a b : List Nod} : lsame a b = true ↔ a.map er = b.map er := by
  rw [lsame_iff]
  constructor
  · rintro ⟨h1, h2⟩
    apply List.ext_getElem
    · simp [h1]
    · intro i q1 q2
      simp at q1 q2
      have := nsame_er.1 (h2 i q1)
      unfold at_nod at this
      rw [List.getD_eq_getElem?_getD, List.getD_eq_getElem?_getD, List.getElem?_eq_getElem q1, List.getElem?_eq_getElem q2] at this
      simp only [List.getElem_map]; exact this
  · intro h
    have hl : a.length = b.length := by have := congrArg List.length h; simpa using this
    refine ⟨hl, fun k hk => nsame_er.2 ?_⟩
    rw [← at_er, ← at_er, h]
theorem map_er_er (L : List Nod) : (L.map er).map er = L.map er := by rw [List.map_map]; rfl
theorem cno_er (L : List Nod) : (cno L).map er = cno L := by unfold cno; rw [renum_er, srt_er, map_er_er]
theorem cno_len (L : List Nod) : (cno L).length = L.length := by unfold cno; simp
end Go.Xp
