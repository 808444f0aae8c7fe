/- Layer 14 (flatten): data are stored once per class: plain. -/
import Derived.Test.YtknimfbagbkjfaaDoorFlaM
set_option linter.unusedSimpArgs false
set_option linter.unusedVariables false
set_option linter.unusedSectionVars false
namespace Go.Xp

theorem if_same {p q : Prop} [Decidable p] [Decidable q] {a b : Nat} (h : p ↔ q) : (if p then a else b) = if q then a else b := by
  by_cases c : p
  · rw [if_pos c, if_pos (h.1 c)]
  · rw [if_neg c, if_neg (fun d => c (h.2 d))]
/-- Is there a file of this class? -/
def anyc (L : List Nod) (c : Int) : Bool := L.any fun y => decide (y.kind = 1 ∧ y.cls = c)
theorem anyc_iff {L : List Nod} {c : Int} : anyc L c = true ↔ ∃ y ∈ L, y.kind = 1 ∧ y.cls = c := by
  unfold anyc; rw [List.any_eq_true]
  constructor
  · rintro ⟨y, hy, e⟩; exact ⟨y, hy, of_decide_eq_true e⟩
  · rintro ⟨y, hy, e⟩; exact ⟨y, hy, decide_eq_true e⟩
theorem anyc_cons (x : Nod) (L : List Nod) (c : Int) : anyc (x :: L) c = (decide (x.kind = 1 ∧ x.cls = c) || anyc L c) := by unfold anyc; rw [List.any_cons]
theorem anyc_perm {L L' : List Nod} (h : L.Perm L') (c : Int) : anyc L c = anyc L' c := by
  rw [Bool.eq_iff_iff, anyc_iff, anyc_iff]
  constructor
  · rintro ⟨y, hy, e⟩; exact ⟨y, h.mem_iff.1 hy, e⟩
  · rintro ⟨y, hy, e⟩; exact ⟨y, h.mem_iff.2 hy, e⟩
/-- The weights of the files, a class's once. -/
def Gw (w : Nod → Nat) : List Nod → Nat
  | [] => 0
  | x :: r => (if x.kind = 1 ∧ (x.cls = 0 ∨ anyc r x.cls = false) then w x else 0) + Gw w r
theorem Gw_cons (w : Nod → Nat) (x : Nod) (r : List Nod) : Gw w (x :: r) = (if x.kind = 1 ∧ (x.cls = 0 ∨ anyc r x.cls = false) then w x else 0) + Gw w r := rfl
theorem Gw_perm {w : Nod → Nat} {L L' : List Nod} (h : L.Perm L') : (∀ x ∈ L, ∀ y ∈ L, x.cls = y.cls → ¬ y.cls = 0 → w x = w y) → Gw w L = Gw w L' := by
  induction h with
  | nil => intro _; rfl
  | cons x p ih =>
    intro hw
    rw [Gw_cons, Gw_cons, anyc_perm p, ih (fun a ha b hb => hw a (by simp [ha]) b (by simp [hb]))]
  | swap x y l =>
    intro hw
    rw [Gw_cons, Gw_cons, Gw_cons, Gw_cons, anyc_cons, anyc_cons]
    by_cases E : (x.kind = 1 ∧ y.kind = 1) ∧ x.cls = y.cls ∧ ¬ y.cls = 0
    · obtain ⟨⟨k1, k2⟩, e, hz⟩ := E
      have ew := hw x (by simp) y (by simp) e hz
      have hz' : ¬ x.cls = 0 := by rw [e]; exact hz
      rw [e] at *
      simp [k1, k2, hz, ew]
    · have hy : (y.kind = 1 ∧ (y.cls = 0 ∨ (decide (x.kind = 1 ∧ x.cls = y.cls) || anyc l y.cls) = false)) ↔ (y.kind = 1 ∧ (y.cls = 0 ∨ anyc l y.cls = false)) := by
        constructor
        · rintro ⟨a, b | b⟩
          · exact ⟨a, .inl b⟩
          · exact ⟨a, .inr (Bool.or_eq_false_iff.1 b).2⟩
        · rintro ⟨a, b | b⟩
          · exact ⟨a, .inl b⟩
          · by_cases z : y.cls = 0
            · exact ⟨a, .inl z⟩
            · refine ⟨a, .inr ?_⟩
              rw [b, Bool.or_false, decide_eq_false_iff_not]
              rintro ⟨q1, q2⟩
              exact E ⟨⟨q1, a⟩, q2, z⟩
      have hx : (x.kind = 1 ∧ (x.cls = 0 ∨ (decide (y.kind = 1 ∧ y.cls = x.cls) || anyc l x.cls) = false)) ↔ (x.kind = 1 ∧ (x.cls = 0 ∨ anyc l x.cls = false)) := by
        constructor
        · rintro ⟨a, b | b⟩
          · exact ⟨a, .inl b⟩
          · exact ⟨a, .inr (Bool.or_eq_false_iff.1 b).2⟩
        · rintro ⟨a, b | b⟩
          · exact ⟨a, .inl b⟩
          · by_cases z : x.cls = 0
            · exact ⟨a, .inl z⟩
            · refine ⟨a, .inr ?_⟩
              rw [b, Bool.or_false, decide_eq_false_iff_not]
              rintro ⟨q1, q2⟩
              exact E ⟨⟨a, q1⟩, q2.symm, by rw [q2]; exact z⟩
      rw [if_same hy, if_same hx]
      omega
  | trans p q ih1 ih2 =>
    intro hw
    rw [ih1 hw, ih2 (fun a ha b hb => hw a (p.mem_iff.2 ha) b (p.mem_iff.2 hb))]
theorem anyc_er (L : List Nod) (c : Int) : anyc (L.map er) c = anyc L c := by unfold anyc; rw [List.any_map]; rfl
theorem Gw_er {w : Nod → Nat} (hw : ∀ x, w (er x) = w x) : ∀ L : List Nod, Gw w (L.map er) = Gw w L
  | [] => rfl
  | x :: L => by
    rw [List.map_cons, Gw_cons, Gw_cons, anyc_er, hw, Gw_er hw L]; rfl
/-- Another numbering: classes of one node alone may go. -/
theorem Gw_ren {w : Nod → Nat} {W : List Nod} {f : Nod → Int} (hw : ∀ x c, w (wcl x c) = w x) (hW : Cfl W) (hnn : ∀ x ∈ W, 0 ≤ x.cls) (h1 : ∀ x ∈ W, f x = 0 → ¬ x.cls = 0 → ccl W x.cls < 2) (h2 : ∀ x ∈ W, ∀ y ∈ W, ¬ f x = 0 → f y = f x → y.cls = x.cls) (h3 : ∀ x ∈ W, ∀ y ∈ W, y.cls = x.cls → f y = f x) (h4 : ∀ x ∈ W, x.cls = 0 → f x = 0) :
    ∀ T : List Nod, T.Sublist W → Gw w (T.map fun x => wcl x (f x)) = Gw w T
  | [], _ => rfl
  | x :: T, hT => by
    have hx : x ∈ W := hT.subset (by simp)
    have hsub : T.Sublist W := (List.sublist_cons_self x T).trans hT
    rw [List.map_cons, Gw_cons, Gw_cons, Gw_ren hw hW hnn h1 h2 h3 h4 T hsub, hw]
    congr 1
    refine if_same ?_
    show (x.kind = 1 ∧ (f x = 0 ∨ anyc (T.map fun x => wcl x (f x)) (f x) = false)) ↔ _
    refine and_congr_right (fun hk => ?_)
    by_cases hf : f x = 0
    · refine ⟨fun _ => ?_, fun _ => .inl hf⟩
      by_cases hc : x.cls = 0
      · exact .inl hc
      · refine .inr ?_
        rw [← Bool.not_eq_true, anyc_iff]
        rintro ⟨y, hy, -, e⟩
        have c1 := h1 x hx hf hc
        have c2 : ccl (x :: T) x.cls ≤ ccl W x.cls := hT.countP_le
        have c3 : 1 ≤ ccl T x.cls := List.countP_pos_iff.2 ⟨y, hy, decide_eq_true e⟩
        have c4 : ccl (x :: T) x.cls = ccl T x.cls + 1 := by unfold ccl; rw [List.countP_cons]; simp
        omega
    · have hc : ¬ x.cls = 0 := fun q => hf (h4 x hx q)
      have e : anyc (T.map fun x => wcl x (f x)) (f x) = anyc T x.cls := by
        rw [Bool.eq_iff_iff, anyc_iff, anyc_iff]
        constructor
        · rintro ⟨z, hz, q1, q2⟩
          obtain ⟨y, hy, rfl⟩ := List.mem_map.1 hz
          exact ⟨y, hy, q1, h2 x hx y (hsub.subset hy) hf q2⟩
        · rintro ⟨y, hy, q1, q2⟩
          exact ⟨_, List.mem_map_of_mem hy, q1, h3 x hx y (hsub.subset hy) q2⟩
      rw [e]
      exact ⟨fun q => q.elim (fun q => absurd q hf) .inr, fun q => q.elim (fun q => absurd q hc) .inr⟩
theorem Gw_cno {w : Nod → Nat} {l : List Nod} (h : TSet l) (he : ∀ x, w (er x) = w x) (hc : ∀ x c, w (wcl x c) = w x) (hw : ∀ x ∈ l, ∀ y ∈ l, x.cls = y.cls → ¬ y.cls = 0 → w x = w y) : Gw w (cno l) = Gw w l := by
  have hT := (h.er).perm (srt_perm (l.map er)).symm
  have hwT : ∀ x ∈ l.map er, ∀ y ∈ l.map er, x.cls = y.cls → ¬ y.cls = 0 → w x = w y := fun x hx y hy e hn => by
    obtain ⟨a, ha, rfl⟩ := List.mem_map.1 hx
    obtain ⟨b, hb, rfl⟩ := List.mem_map.1 hy
    rw [he, he]; exact hw a ha b hb e hn
  have e1 : Gw w (srt (l.map er)) = Gw w l := by rw [← Gw_er he l, Gw_perm (srt_perm (l.map er)).symm hwT]
  rw [cno_ccl, renum_map]
  have eT : (fun c => (ccl l c : Int)) = fun c => (ccl (srt (l.map er)) c : Int) := funext fun c => by rw [ccl_perm (srt_perm _), ccl_er]
  rw [eT, ← e1]
  generalize srt (l.map er) = T at *
  refine Gw_ren (W := T) hc hT.cfl (fun x hx => (tone_parts (hT.one x hx)).2.2.2.1) (fun x hx hf hn => ?_) (fun x hx y hy hf e => ?_) (fun x _ y _ e => ?_) (fun x hx e => ?_) T (List.Sublist.refl _)
  · have hp := (tone_parts (hT.one x hx)).2.2.2.1
    apply Decidable.byContradiction
    intro q
    have : Rea (fun c => (ccl T c : Int)) x := by
      rintro (r | r)
      · omega
      · simp only at r; omega
    have := clv_pos hx this
    omega
  · exact (clv_inj hy e hf).1
  · unfold clv; rw [e]
  · unfold clv; rw [if_pos (.inl (by omega))]
end Go.Xp
