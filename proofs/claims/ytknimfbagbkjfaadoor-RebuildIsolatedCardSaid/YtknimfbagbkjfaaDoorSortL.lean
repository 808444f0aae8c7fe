/- The library's stable sort of nodes: what it computes is the stable insertion into a sorted list: plain. -/
import Derived.Test.YtknimfbagbkjfaaDoorSortB
import Derived.Test.YtknimfbagbkjfaaDoorPathLaw
set_option linter.unusedSimpArgs false
set_option linter.unusedVariables false
set_option linter.unusedSectionVars false
namespace Go.Xp

/-- A node is put behind all that are not greater. -/
def nin (x : Nod) : List Nod → List Nod
  | [] => [x]
  | y :: l => if nlt x y then x :: y :: l else y :: nin x l
def srt (L : List Nod) : List Nod := L.foldl (fun S x => nin x S) []
/-- The stable merge of two lists. -/
def mrg : List Nod → List Nod → List Nod
  | [], Y => Y
  | x :: X, [] => x :: X
  | x :: X, y :: Y => if nlt y x then y :: mrg (x :: X) Y else x :: mrg X (y :: Y)
termination_by X Y => X.length + Y.length
def Asc (L : List Nod) : Prop := L.Pairwise (fun x y => ¬ nlt y x)

theorem nlt_iff {x y : Nod} : nlt x y ↔ Op.bytesLess x.path y.path = true := by
  unfold nlt
  rcases pcmp_cases x.path y.path with ⟨h1, h2⟩ | ⟨h1, h2⟩ | ⟨h1, h2⟩
  · rw [h1]; exact ⟨fun _ => h2, fun _ => by decide⟩
  · rw [h1, h2, less_irrefl]; exact ⟨fun q => absurd q (by decide), fun q => by cases q⟩
  · rw [h1, less_asymm h2]; exact ⟨fun q => absurd q (by decide), fun q => by cases q⟩
theorem nlt_trans {x y z : Nod} (h1 : nlt x y) (h2 : nlt y z) : nlt x z := by
  rw [nlt_iff] at *
  exact less_trans h1 h2
theorem nlt_nle {x y : Nod} (h : nlt x y) : ¬ nlt y x := by
  rw [nlt_iff] at *
  rw [less_asymm h]; exact fun q => by cases q
theorem nlt_cases (x y : Nod) : nlt x y ∨ x.path = y.path ∨ nlt y x := by
  simp only [nlt_iff]
  rcases pcmp_cases x.path y.path with ⟨h1, h2⟩ | ⟨h1, h2⟩ | ⟨h1, h2⟩
  · exact .inl h2
  · exact .inr (.inl h2)
  · exact .inr (.inr h2)
/-- x < y and y ≤ z. -/
theorem nlt_neg {x y z : Nod} (h1 : nlt x y) (h2 : ¬ nlt z y) : nlt x z := by
  rcases nlt_cases y z with h | h | h
  · exact nlt_trans h1 h
  · rw [nlt_iff] at *; rw [← h]; exact h1
  · exact absurd h h2
/-- x ≤ y and y < z. -/
theorem nlt_neg2 {x y z : Nod} (h1 : ¬ nlt y x) (h2 : nlt y z) : nlt x z := by
  rcases nlt_cases x y with h | h | h
  · exact nlt_trans h h2
  · rw [nlt_iff] at *; rw [h]; exact h2
  · exact absurd h h1
theorem nle_trans {x y z : Nod} (h1 : ¬ nlt y x) (h2 : ¬ nlt z y) : ¬ nlt z x := fun h => h2 (nlt_neg h h1)

@[simp] theorem mrg_nl (Y : List Nod) : mrg [] Y = Y := by unfold mrg; rfl
@[simp] theorem mrg_nr (X : List Nod) : mrg X [] = X := by cases X <;> (unfold mrg; rfl)
theorem mrg_y {x y : Nod} {X Y : List Nod} (h : nlt y x) : mrg (x :: X) (y :: Y) = y :: mrg (x :: X) Y := by rw [mrg, if_pos h]
theorem mrg_x {x y : Nod} {X Y : List Nod} (h : ¬ nlt y x) : mrg (x :: X) (y :: Y) = x :: mrg X (y :: Y) := by rw [mrg, if_neg h]
theorem nin_lt {x y : Nod} {l : List Nod} (h : nlt x y) : nin x (y :: l) = x :: y :: l := by unfold nin; rw [if_pos h]
theorem nin_ge {x y : Nod} {l : List Nod} (h : ¬ nlt x y) : nin x (y :: l) = y :: nin x l := by
  conv => lhs; unfold nin
  rw [if_neg h]
theorem list_snoc {P : List Nod → Prop} (h0 : P []) (h1 : ∀ l x, P l → P (l ++ [x])) (l : List Nod) : P l := by
  have : ∀ r : List Nod, P r.reverse := fun r => by
    induction r with
    | nil => exact h0
    | cons x r ih => rw [List.reverse_cons]; exact h1 _ x ih
  have := this l.reverse
  rwa [List.reverse_reverse] at this
theorem nin_snoc {x s : Nod} (h : nlt x s) : ∀ l : List Nod, nin x (l ++ [s]) = nin x l ++ [s]
  | [] => by rw [List.nil_append, nin_lt h]; rfl
  | y :: l => by
    by_cases h1 : nlt x y
    · rw [List.cons_append, nin_lt h1, nin_lt h1]; rfl
    · rw [List.cons_append, nin_ge h1, nin_ge h1, nin_snoc h l]; rfl
theorem nin_end {x : Nod} : ∀ {l : List Nod}, (∀ y ∈ l, ¬ nlt x y) → nin x l = l ++ [x]
  | [], _ => rfl
  | y :: l, h => by rw [nin_ge (h y (by simp)), nin_end (fun z hz => h z (by simp [hz]))]; rfl
theorem nin_len (x : Nod) : ∀ l : List Nod, (nin x l).length = l.length + 1
  | [] => rfl
  | y :: l => by
    by_cases h1 : nlt x y
    · rw [nin_lt h1]; rfl
    · rw [nin_ge h1]; simp [nin_len x l]
theorem nin_mem (x : Nod) : ∀ (l : List Nod) (z : Nod), z ∈ nin x l ↔ z = x ∨ z ∈ l
  | [], z => by simp [nin]
  | y :: l, z => by
    by_cases h1 : nlt x y
    · rw [nin_lt h1]; simp
    · rw [nin_ge h1, List.mem_cons, nin_mem x l z, List.mem_cons]
      constructor
      · rintro (h | h | h)
        · exact .inr (.inl h)
        · exact .inl h
        · exact .inr (.inr h)
      · rintro (h | h | h)
        · exact .inr (.inl h)
        · exact .inl h
        · exact .inr (.inr h)
theorem nin_asc (x : Nod) : ∀ {l : List Nod}, Asc l → Asc (nin x l)
  | [], _ => by simp [nin, Asc]
  | y :: l, h => by
    obtain ⟨h1, h2⟩ := List.pairwise_cons.1 h
    by_cases hx : nlt x y
    · rw [nin_lt hx]
      refine List.pairwise_cons.2 ⟨fun z hz => ?_, h⟩
      rcases List.mem_cons.1 hz with rfl | hz
      · exact nlt_nle hx
      · exact nle_trans (nlt_nle hx) (h1 z hz)
    · rw [nin_ge hx]
      refine List.pairwise_cons.2 ⟨fun z hz => ?_, nin_asc x h2⟩
      rcases (nin_mem x l z).1 hz with rfl | hz
      · exact hx
      · exact h1 z hz
theorem foldnin_asc : ∀ (L S : List Nod), Asc S → Asc (L.foldl (fun S x => nin x S) S)
  | [], S, h => h
  | x :: L, S, h => foldnin_asc L _ (nin_asc x h)
theorem srt_asc (L : List Nod) : Asc (srt L) := foldnin_asc L [] List.Pairwise.nil
theorem foldnin_len : ∀ (L S : List Nod), (L.foldl (fun S x => nin x S) S).length = S.length + L.length
  | [], S => rfl
  | x :: L, S => by rw [List.foldl_cons, foldnin_len L, nin_len]; simp; omega
@[simp] theorem srt_len (L : List Nod) : (srt L).length = L.length := by unfold srt; rw [foldnin_len]; simp
theorem foldnin_mem : ∀ (L S : List Nod) (z : Nod), z ∈ L.foldl (fun S x => nin x S) S ↔ z ∈ S ∨ z ∈ L
  | [], S, z => by simp
  | x :: L, S, z => by
    rw [List.foldl_cons, foldnin_mem L, nin_mem, List.mem_cons]
    constructor
    · rintro ((h | h) | h)
      · exact .inr (.inl h)
      · exact .inl h
      · exact .inr (.inr h)
    · rintro (h | h | h)
      · exact .inl (.inr h)
      · exact .inl (.inl h)
      · exact .inr h
theorem srt_mem (L : List Nod) (z : Nod) : z ∈ srt L ↔ z ∈ L := by unfold srt; rw [foldnin_mem]; simp
theorem nin_mrg (y : Nod) : ∀ S T : List Nod, nin y (mrg S T) = mrg S (nin y T)
  | [], T => by simp
  | s :: S, [] => by
    rw [mrg_nr]
    show nin y (s :: S) = mrg (s :: S) [y]
    by_cases h : nlt y s
    · rw [nin_lt h, mrg_y h, mrg_nr]
    · have := nin_mrg y S []
      rw [mrg_nr] at this
      rw [nin_ge h, mrg_x h]
      exact congrArg (s :: ·) this
  | s :: S, t :: T => by
    by_cases h : nlt t s
    · rw [mrg_y h]
      by_cases h1 : nlt y t
      · rw [nin_lt h1, nin_lt h1, mrg_y (nlt_trans h1 h), mrg_y h]
      · rw [nin_ge h1, nin_ge h1, mrg_y h, nin_mrg y (s :: S) T]
    · rw [mrg_x h]
      by_cases h1 : nlt y s
      · rw [nin_lt h1, nin_lt (nlt_neg h1 h), mrg_y h1, mrg_x h]
      · rw [nin_ge h1, nin_mrg y S (t :: T)]
        by_cases h2 : nlt y t
        · rw [nin_lt h2, mrg_x h1]
        · rw [nin_ge h2, mrg_x h]
termination_by S T => S.length + T.length
theorem mrg_fold (S : List Nod) : ∀ (Y T : List Nod), mrg S (Y.foldl (fun S x => nin x S) T) = Y.foldl (fun S x => nin x S) (mrg S T)
  | [], T => rfl
  | y :: Y, T => by rw [List.foldl_cons, List.foldl_cons, mrg_fold S Y, nin_mrg]
/-- To sort two runs and to merge them is to sort the whole. -/
theorem mrg_srt (X Y : List Nod) : mrg (srt X) (srt Y) = srt (X ++ Y) := by
  unfold srt
  rw [mrg_fold, List.foldl_append, mrg_nr]
theorem mrg_len : ∀ X Y : List Nod, (mrg X Y).length = X.length + Y.length
  | [], Y => by simp
  | x :: X, [] => by simp
  | x :: X, y :: Y => by
    by_cases h : nlt y x
    · rw [mrg_y h, List.length_cons, mrg_len (x :: X) Y]; simp; omega
    · rw [mrg_x h, List.length_cons, mrg_len X (y :: Y)]; simp; omega
termination_by X Y => X.length + Y.length
theorem mrg_split : ∀ (X1 X2 Y1 Y2 : List Nod), (∀ x ∈ X1, ∀ y ∈ Y2, ¬ nlt y x) → (∀ x ∈ X2, ∀ y ∈ Y1, nlt y x) → mrg (X1 ++ X2) (Y1 ++ Y2) = mrg X1 Y1 ++ mrg X2 Y2
  | [], X2, [], Y2, _, _ => by simp
  | [], [], y :: Y1, Y2, _, _ => by simp
  | [], x :: X2, y :: Y1, Y2, h1, h2 => by
    have hx := h2 x (by simp) y (by simp)
    have := mrg_split [] (x :: X2) Y1 Y2 h1 (fun a ha b hb => h2 a ha b (by simp [hb]))
    rw [List.nil_append, mrg_nl] at this
    rw [List.nil_append, mrg_nl, List.cons_append, mrg_y hx, this]; rfl
  | x :: X1, X2, [], [], _, _ => by simp
  | x :: X1, X2, [], y :: Y2, h1, h2 => by
    have hx := h1 x (by simp) y (by simp)
    have := mrg_split X1 X2 [] (y :: Y2) (fun a ha b hb => h1 a (by simp [ha]) b hb) h2
    rw [List.nil_append, mrg_nr] at this
    rw [List.nil_append, mrg_nr, List.cons_append, mrg_x hx, this]; rfl
  | x :: X1, X2, y :: Y1, Y2, h1, h2 => by
    by_cases h : nlt y x
    · have := mrg_split (x :: X1) X2 Y1 Y2 h1 (fun a ha b hb => h2 a ha b (by simp [hb]))
      rw [List.cons_append] at this
      rw [List.cons_append, List.cons_append, mrg_y h, mrg_y h, this]; rfl
    · have := mrg_split X1 X2 (y :: Y1) Y2 (fun a ha b hb => h1 a (by simp [ha]) b hb) h2
      rw [List.cons_append] at this
      rw [List.cons_append, List.cons_append, mrg_x h, mrg_x h, this]; rfl
termination_by X1 X2 Y1 Y2 => X1.length + Y1.length

theorem at_app (A : List Nod) (x : Nod) (C : List Nod) : at_nod (A ++ x :: C) A.length = x := by
  unfold at_nod
  rw [List.getD_eq_getElem?_getD, List.getElem?_append_right (Nat.le_refl _)]; simp
theorem set_app (A : List Nod) (x y : Nod) (C : List Nod) : (A ++ x :: C).set A.length y = A ++ y :: C := by
  rw [List.set_append_right _ _ (Nat.le_refl _)]; simp
theorem swp_app (A M C : List Nod) (x y : Nod) {i j : Nat} (hi : i = A.length) (hj : j = A.length + 1 + M.length) : swp (A ++ x :: (M ++ y :: C)) i j = A ++ y :: (M ++ x :: C) := by
  subst hi; subst hj
  have e : ∀ a b : Nod, A ++ a :: (M ++ b :: C) = (A ++ a :: M) ++ b :: C := fun a b => by simp
  have l1 : ∀ a : Nod, (A ++ a :: M).length = A.length + 1 + M.length := fun a => by simp; omega
  unfold swp
  rw [at_app]
  have h1 : at_nod (A ++ x :: (M ++ y :: C)) (A.length + 1 + M.length) = y := by rw [e, ← l1 x, at_app]
  rw [h1, set_app, e y y, ← l1 y, set_app, e y x]
theorem swp_comm (L : List Nod) {i j : Nat} (h : i ≠ j) : swp L i j = swp L j i := by
  unfold swp
  rw [List.set_comm _ _ h]
theorem swr_app : ∀ (n : Nat) (A X M Y C : List Nod) {i j : Nat}, X.length = n → Y.length = n → i = A.length → j = A.length + n + M.length → swr (A ++ (X ++ (M ++ (Y ++ C)))) i j n = A ++ (Y ++ (M ++ (X ++ C)))
  | 0, A, X, M, Y, C, i, j, hX, hY, hi, hj => by
    obtain rfl := List.length_eq_zero_iff.1 hX
    obtain rfl := List.length_eq_zero_iff.1 hY
    rfl
  | n + 1, A, X, M, Y, C, i, j, hX, hY, hi, hj => by
    obtain ⟨X', x, rfl⟩ : ∃ X' x, X = X' ++ [x] := by
      rcases List.eq_nil_or_concat X with h | ⟨X', x, h⟩
      · subst h; simp at hX
      · exact ⟨X', x, by rw [h, List.concat_eq_append]⟩
    obtain ⟨Y', y, rfl⟩ : ∃ Y' y, Y = Y' ++ [y] := by
      rcases List.eq_nil_or_concat Y with h | ⟨Y', y, h⟩
      · subst h; simp at hY
      · exact ⟨Y', y, by rw [h, List.concat_eq_append]⟩
    simp at hX hY
    have ih := swr_app n A X' (x :: M) Y' (y :: C) (i := i) (j := j) hX hY hi (by simp; omega)
    unfold swr
    have e1 : A ++ (X' ++ [x] ++ (M ++ (Y' ++ [y] ++ C))) = A ++ (X' ++ (x :: M ++ (Y' ++ y :: C))) := by simp
    rw [e1, ih]
    have := swp_app (A ++ Y') (M ++ X') C x y (i := i + n) (j := j + n) (by simp; omega) (by simp; omega)
    simp only [List.append_assoc, List.cons_append, List.nil_append] at this ⊢
    exact this
theorem rotf_app : ∀ (f : Nat) (A X Y C : List Nod) {i j m : Nat}, i = X.length → j = Y.length → m = A.length + X.length → 0 < i → 0 < j → i + j ≤ f → rotf m f i j (A ++ (X ++ (Y ++ C))) = A ++ (Y ++ (X ++ C))
  | 0, A, X, Y, C, i, j, m, hi, hj, hm, h1, h2, hf => by omega
  | f + 1, A, X, Y, C, i, j, m, hi, hj, hm, h1, h2, hf => by
    unfold rotf
    split
    · rename_i e
      have := swr_app i A X [] Y C (i := m - i) (j := m) hi.symm (by omega) (by omega) (by simp; omega)
      simpa using this
    · split
      · have hX : X = X.take j ++ X.drop j := (List.take_append_drop j X).symm
        have l1 : (X.take j).length = j := by rw [List.length_take]; omega
        have l2 : (X.drop j).length = i - j := by rw [List.length_drop]; omega
        generalize X.take j = X1 at *
        generalize X.drop j = X2 at *
        subst hX
        have := swr_app j A X1 X2 Y C (i := m - i) (j := m) l1 hj.symm (by omega) (by rw [hm, List.length_append]; omega)
        simp only [List.append_assoc] at this ⊢
        rw [this]
        have ih := rotf_app f (A ++ Y) X2 X1 C (i := i - j) (j := j) (m := m) l2.symm l1.symm (by simp at *; omega) (by omega) h2 (by omega)
        simp only [List.append_assoc] at ih
        exact ih
      · have hY : Y = Y.take (j - i) ++ Y.drop (j - i) := (List.take_append_drop _ Y).symm
        have l1 : (Y.take (j - i)).length = j - i := by rw [List.length_take]; omega
        have l2 : (Y.drop (j - i)).length = i := by rw [List.length_drop]; omega
        generalize Y.take (j - i) = Y1 at *
        generalize Y.drop (j - i) = Y2 at *
        subst hY
        have := swr_app i A X Y1 Y2 C (i := m - i) (j := m + j - i) hi.symm l2 (by omega) (by omega)
        simp only [List.append_assoc] at this ⊢
        rw [this]
        have ih := rotf_app f A Y2 Y1 (X ++ C) (i := i) (j := j - i) (m := m) l2.symm l1.symm (by omega) h1 (by omega) (by omega)
        exact ih
theorem rot_app (A X Y C : List Nod) {a m b : Nat} (ha : a = A.length) (hm : m = A.length + X.length) (hb : b = A.length + X.length + Y.length) (hX : 0 < X.length) (hY : 0 < Y.length) : rot (A ++ (X ++ (Y ++ C))) a m b = A ++ (Y ++ (X ++ C)) := by
  unfold rot
  exact rotf_app _ A X Y C (by omega) (by omega) hm (by omega) (by omega) (by omega)
theorem insf_app (A : List Nod) {a : Nat} (ha : a = A.length) : ∀ (S : List Nod) (x : Nod) (C : List Nod) {j : Nat}, Asc S → j = A.length + S.length → insf a j (A ++ (S ++ x :: C)) = A ++ (nin x S ++ C) := by
  intro S
  induction S using list_snoc with
  | h0 =>
    intro x C j hS hj
    rw [insf_no (fun q => by simp at hj; omega)]; rfl
  | h1 S s ih =>
    intro x C j hS hj
    simp at hj
    have hS' : Asc S := (List.pairwise_append.1 hS).1
    have e1 : at_nod (A ++ (S ++ [s] ++ x :: C)) j = x := by
      have := at_app (A ++ (S ++ [s])) x C
      simp at this
      rw [hj]; simpa using this
    have e2 : at_nod (A ++ (S ++ [s] ++ x :: C)) (j - 1) = s := by
      have := at_app (A ++ S) s (x :: C)
      simp at this
      rw [show j - 1 = A.length + S.length by omega]; simpa using this
    by_cases h : nlt x s
    · rw [insf_yes (by omega) (by rw [e1, e2]; exact h)]
      have := swp_app (A ++ S) [] C s x (i := j - 1) (j := j) (by simp; omega) (by simp; omega)
      simp only [List.append_assoc, List.cons_append, List.nil_append] at this ⊢
      rw [swp_comm _ (by omega), this, ih x (s :: C) hS' (by omega), nin_snoc h]
      simp
    · rw [insf_no (by rw [e1, e2]; exact fun q => h q.2), nin_end (fun y hy => ?_)]
      · simp
      · rcases List.mem_append.1 hy with hy | hy
        · exact nle_trans ((List.pairwise_append.1 hS).2.2 y hy s (by simp)) h
        · simp at hy; subst hy; exact h
theorem iso_app (A : List Nod) {a : Nat} (ha : a = A.length) : ∀ (Y S C : List Nod) {i n : Nat}, Asc S → i = A.length + S.length → n = Y.length → iso a i n (A ++ (S ++ (Y ++ C))) = A ++ (Y.foldl (fun S x => nin x S) S ++ C)
  | [], S, C, i, n, hS, hi, hn => by subst hn; rfl
  | y :: Y, S, C, i, n, hS, hi, hn => by
    subst hn
    show iso a (i + 1) Y.length (insf a i (A ++ (S ++ (y :: (Y ++ C))))) = _
    rw [insf_app A ha S y (Y ++ C) hS hi, iso_app A ha Y (nin y S) C (nin_asc y hS) (by rw [nin_len]; omega) rfl]
    rfl
theorem isort_app (A X C : List Nod) {a b : Nat} (ha : a = A.length) (hb : b = A.length + X.length) : isort (A ++ (X ++ C)) a b = A ++ (srt X ++ C) := by
  cases X with
  | nil =>
    unfold isort
    simp at hb
    rw [show b - (a + 1) = 0 by omega]; rfl
  | cons x X =>
    unfold isort
    have := iso_app A ha X [x] C (i := a + 1) (n := b - (a + 1)) (List.pairwise_singleton _ _) (by simp; omega) (by simp at hb; omega)
    exact this
theorem shl_app : ∀ (Y A C : List Nod) (x : Nod) {k n : Nat}, k = A.length → n = Y.length → shl k n (A ++ x :: (Y ++ C)) = A ++ (Y ++ x :: C)
  | [], A, C, x, k, n, hk, hn => by subst hn; rfl
  | y :: Y, A, C, x, k, n, hk, hn => by
    subst hn
    show shl (k + 1) Y.length (swp (A ++ x :: (y :: (Y ++ C))) k (k + 1)) = _
    have := swp_app A [] (Y ++ C) x y (i := k) (j := k + 1) hk (by simp; omega)
    simp only [List.nil_append] at this
    rw [this]
    have ih := shl_app Y (A ++ [y]) C x (k := k + 1) (n := Y.length) (by simp; omega) rfl
    simp only [List.append_assoc, List.cons_append, List.nil_append] at ih ⊢
    exact ih
theorem shr_app (Y : List Nod) : ∀ (A C : List Nod) (y : Nod) {k n : Nat}, k = A.length + Y.length → n = Y.length → shr k n (A ++ (Y ++ y :: C)) = A ++ y :: (Y ++ C) := by
  induction Y using list_snoc with
  | h0 =>
    intro A C y k n hk hn
    subst hn; rfl
  | h1 Y x ih =>
    intro A C y k n hk hn
    simp at hk hn
    subst hn
    show shr (k - 1) Y.length (swp (A ++ (Y ++ [x] ++ y :: C)) k (k - 1)) = _
    have := swp_app (A ++ Y) [] C x y (i := k - 1) (j := k) (by simp; omega) (by simp; omega)
    simp only [List.append_assoc, List.cons_append, List.nil_append] at this ⊢
    rw [swp_comm _ (by omega), this]
    have := ih A (x :: C) y (k := k - 1) (n := Y.length) (by omega) rfl
    rw [this]
theorem bsr_spec {p : Nat → Bool} : ∀ (f : Nat) {i j lo hi : Nat}, (∀ c d, lo ≤ c → c < d → d < hi → p d = true → p c = true) → lo ≤ i → i ≤ j → j ≤ hi → j - i ≤ f → (∀ c, lo ≤ c → c < i → p c = true) → (∀ c, j ≤ c → c < hi → p c = false) →
    (∀ c, lo ≤ c → c < bsr p f i j → p c = true) ∧ (∀ c, bsr p f i j ≤ c → c < hi → p c = false)
  | 0, i, j, lo, hi, hm, h1, h2, h3, hf, hl, hr => by
    obtain rfl : i = j := by omega
    exact ⟨hl, hr⟩
  | f + 1, i, j, lo, hi, hm, h1, h2, h3, hf, hl, hr => by
    by_cases h : i < j
    · cases hp : p ((i + j) / 2)
      · rw [bsr_no (by omega) h hp]
        refine bsr_spec f hm h1 (by omega) (by omega) (by show _ ≤ f; omega) hl (fun c hc hc2 => ?_)
        by_cases hc3 : j ≤ c
        · exact hr c hc3 hc2
        · cases hpc : p c
          · rfl
          · by_cases hc4 : c = (i + j) / 2
            · subst hc4; rw [hp] at hpc; cases hpc
            · have := hm ((i + j) / 2) c (by omega) (by omega) hc2 hpc
              rw [hp] at this; cases this
      · rw [bsr_yes (by omega) h hp]
        refine bsr_spec f hm (by omega) (by omega) h3 (by show _ ≤ f; omega) (fun c hc hc2 => ?_) hr
        by_cases hc3 : c = (i + j) / 2
        · subst hc3; exact hp
        · exact hm c ((i + j) / 2) hc (by omega) (by omega) hp
    · rw [bsr_end h]
      obtain rfl : i = j := by omega
      exact ⟨hl, hr⟩

theorem at_add (A B : List Nod) {i k : Nat} (h : i = A.length + k) : at_nod (A ++ B) i = at_nod B k := by
  subst h
  unfold at_nod
  rw [List.getD_eq_getElem?_getD, List.getElem?_append_right (by omega), Nat.add_sub_cancel_left, List.getD_eq_getElem?_getD]
theorem at_lt (X Z : List Nod) {k : Nat} (h : k < X.length) : at_nod (X ++ Z) k = at_nod X k := by
  unfold at_nod
  rw [List.getD_eq_getElem?_getD, List.getElem?_append_left h, List.getD_eq_getElem?_getD]
theorem asc_at {X : List Nod} (h : Asc X) {i j : Nat} (hi : i ≤ j) (hj : j < X.length) : ¬ nlt (at_nod X j) (at_nod X i) := by
  by_cases e : i = j
  · subst e; exact fun q => nlt_nle q q
  · have := List.pairwise_iff_getElem.1 h i j (by omega) hj (by omega)
    unfold at_nod
    rw [List.getD_eq_getElem?_getD, List.getElem?_eq_getElem hj, List.getD_eq_getElem?_getD, List.getElem?_eq_getElem (show i < X.length by omega)]
    exact this
theorem mem_take_at {X : List Nod} {k : Nat} {x : Nod} (h : x ∈ X.take k) : ∃ i, i < k ∧ i < X.length ∧ at_nod X i = x := by
  obtain ⟨i, hi, rfl⟩ := List.getElem_of_mem h
  rw [List.length_take] at hi
  refine ⟨i, by omega, by omega, ?_⟩
  unfold at_nod
  rw [List.getD_eq_getElem?_getD, List.getElem?_eq_getElem (show i < X.length by omega), List.getElem_take]; rfl
theorem mem_drop_at {X : List Nod} {k : Nat} {x : Nod} (h : x ∈ X.drop k) : ∃ i, k ≤ i ∧ i < X.length ∧ at_nod X i = x := by
  obtain ⟨i, hi, rfl⟩ := List.getElem_of_mem h
  rw [List.length_drop] at hi
  refine ⟨k + i, by omega, by omega, ?_⟩
  unfold at_nod
  rw [List.getD_eq_getElem?_getD, List.getElem?_eq_getElem (show k + i < X.length by omega), List.getElem_drop]; rfl
theorem smf_app : ∀ (f : Nat) (A X Y C : List Nod) {a m b : Nat}, Asc X → Asc Y → a = A.length → m = A.length + X.length → b = A.length + X.length + Y.length → 0 < X.length → 0 < Y.length → b - a ≤ f →
    smf f a m b (A ++ (X ++ (Y ++ C))) = A ++ (mrg X Y ++ C)
  | 0, A, X, Y, C, a, m, b, hX, hY, ha, hm, hb, h1, h2, hf => by omega
  | f + 1, A, X, Y, C, a, m, b, hX, hY, ha, hm, hb, h1, h2, hf => by
    have atX : ∀ c, a ≤ c → c < m → at_nod (A ++ (X ++ (Y ++ C))) c = at_nod X (c - a) := fun c q1 q2 => by
      rw [at_add A _ (k := c - a) (by omega), at_lt X _ (by omega)]
    have atY : ∀ c, m ≤ c → c < b → at_nod (A ++ (X ++ (Y ++ C))) c = at_nod Y (c - m) := fun c q1 q2 => by
      rw [at_add A _ (k := c - a) (by omega), at_add X _ (k := c - m) (by omega), at_lt Y _ (by omega)]
    by_cases c1 : m - a = 1
    · rw [smf_1 c1]
      obtain ⟨x, rfl⟩ := List.length_eq_one_iff.1 (show X.length = 1 by omega)
      have hx : at_nod (A ++ ([x] ++ (Y ++ C))) a = x := by rw [atX a (Nat.le_refl _) (by omega), Nat.sub_self]; rfl
      have hp : ∀ c, m ≤ c → c < b → pl1 (A ++ ([x] ++ (Y ++ C))) a c = decide (nlt (at_nod Y (c - m)) x) := fun c q1 q2 => by unfold pl1; rw [hx, atY c q1 q2]
      have hs := bsr_spec (p := pl1 (A ++ ([x] ++ (Y ++ C))) a) (b - m) (i := m) (j := b) (lo := m) (hi := b) (fun c d q1 q2 q3 q4 => by
        rw [hp d (by omega) q3] at q4
        rw [hp c q1 (by omega)]
        exact decide_eq_true (nlt_neg2 (asc_at hY (show c - m ≤ d - m by omega) (by omega)) (of_decide_eq_true q4))) (Nat.le_refl _) (by omega) (Nat.le_refl _) (Nat.le_refl _) (fun c q1 q2 => by omega) (fun c q1 q2 => by omega)
      have hr := bsr_le (p := pl1 (A ++ ([x] ++ (Y ++ C))) a) (f := b - m) (i := m) (j := b) (by omega)
      generalize bsr (pl1 (A ++ ([x] ++ (Y ++ C))) a) (b - m) m b = r at hs hr ⊢
      have k1 : ∀ y ∈ Y.take (r - m), nlt y x := fun y hy => by
        obtain ⟨i, q1, q2, rfl⟩ := mem_take_at hy
        have := hs.1 (m + i) (by omega) (by omega)
        rw [hp _ (by omega) (by omega), Nat.add_sub_cancel_left] at this
        exact of_decide_eq_true this
      have k2 : ∀ y ∈ Y.drop (r - m), ¬ nlt y x := fun y hy => by
        obtain ⟨i, q1, q2, rfl⟩ := mem_drop_at hy
        have := hs.2 (m + i) (by omega) (by omega)
        rw [hp _ (by omega) (by omega), Nat.add_sub_cancel_left] at this
        exact of_decide_eq_false this
      have l1 : (Y.take (r - m)).length = r - m := by rw [List.length_take]; omega
      have eY : Y = Y.take (r - m) ++ Y.drop (r - m) := (List.take_append_drop _ Y).symm
      generalize Y.take (r - m) = Y1 at *
      generalize Y.drop (r - m) = Y2 at *
      have m1 := mrg_split [] [x] Y1 Y2 (by simp) (fun z hz y hy => by simp at hz; subst hz; exact k1 y hy)
      have m2 := mrg_split [x] [] [] Y2 (fun z hz y hy => by simp at hz; subst hz; exact k2 y hy) (by simp)
      simp only [List.append_nil, List.nil_append, mrg_nl, mrg_nr] at m1 m2
      rw [eY, m1, m2]
      have := shl_app Y1 A (Y2 ++ C) x (k := a) (n := r - 1 - a) ha (by simp at hm; omega)
      simp only [List.append_assoc, List.cons_append, List.nil_append] at this ⊢
      exact this
    · by_cases c2 : b - m = 1
      · rw [smf_2 c1 c2]
        obtain ⟨y, rfl⟩ := List.length_eq_one_iff.1 (show Y.length = 1 by omega)
        have hx : at_nod (A ++ (X ++ ([y] ++ C))) m = y := by rw [atY m (Nat.le_refl _) (by omega), Nat.sub_self]; rfl
        have hp : ∀ c, a ≤ c → c < m → pl2 (A ++ (X ++ ([y] ++ C))) m c = decide (¬ nlt y (at_nod X (c - a))) := fun c q1 q2 => by unfold pl2; rw [hx, atX c q1 q2]
        have hs := bsr_spec (p := pl2 (A ++ (X ++ ([y] ++ C))) m) (m - a) (i := a) (j := m) (lo := a) (hi := m) (fun c d q1 q2 q3 q4 => by
          rw [hp d (by omega) q3] at q4
          rw [hp c q1 (by omega)]
          exact decide_eq_true (nle_trans (asc_at hX (show c - a ≤ d - a by omega) (by omega)) (of_decide_eq_true q4))) (Nat.le_refl _) (by omega) (Nat.le_refl _) (Nat.le_refl _) (fun c q1 q2 => by omega) (fun c q1 q2 => by omega)
        have hr := bsr_le (p := pl2 (A ++ (X ++ ([y] ++ C))) m) (f := m - a) (i := a) (j := m) (by omega)
        generalize bsr (pl2 (A ++ (X ++ ([y] ++ C))) m) (m - a) a m = r at hs hr ⊢
        have k1 : ∀ x ∈ X.take (r - a), ¬ nlt y x := fun x hx => by
          obtain ⟨i, q1, q2, rfl⟩ := mem_take_at hx
          have := hs.1 (a + i) (by omega) (by omega)
          rw [hp _ (by omega) (by omega), Nat.add_sub_cancel_left] at this
          exact of_decide_eq_true this
        have k2 : ∀ x ∈ X.drop (r - a), nlt y x := fun x hx => by
          obtain ⟨i, q1, q2, rfl⟩ := mem_drop_at hx
          have := hs.2 (a + i) (by omega) (by omega)
          rw [hp _ (by omega) (by omega), Nat.add_sub_cancel_left] at this
          exact Decidable.not_not.1 (of_decide_eq_false this)
        have l1 : (X.take (r - a)).length = r - a := by rw [List.length_take]; omega
        have l2 : (X.drop (r - a)).length = m - r := by rw [List.length_drop]; omega
        have eX : X = X.take (r - a) ++ X.drop (r - a) := (List.take_append_drop _ X).symm
        generalize X.take (r - a) = X1 at *
        generalize X.drop (r - a) = X2 at *
        have m1 := mrg_split X1 X2 [] [y] (fun z hz w hw => by simp at hw; subst hw; exact k1 z hz) (by simp)
        have m2 := mrg_split [] X2 [y] [] (by simp) (fun z hz w hw => by simp at hw; subst hw; exact k2 z hz)
        simp only [List.append_nil, List.nil_append, mrg_nl, mrg_nr] at m1 m2
        rw [eX, m1, m2]
        have := shr_app X2 (A ++ X1) C y (k := m) (n := m - r) (by simp; omega) (by omega)
        simp only [List.append_assoc, List.cons_append, List.nil_append] at this ⊢
        exact this
      · rw [smf_3 c1 c2 rfl]
        have hS0 : a ≤ sS0 a m b := by unfold sS0; split <;> omega
        have hSR : sS0 a m b ≤ sR0 a m b := by unfold sS0 sR0; split <;> omega
        have hRm : sR0 a m b ≤ m := by unfold sR0; split <;> omega
        have hRc : sR0 a m b ≤ (a + b) / 2 := by unfold sR0; split <;> omega
        have hSb : (a + b) / 2 + m - b ≤ sS0 a m b := by unfold sS0; split <;> omega
        have hSe : sS0 a m b = a ∨ sS0 a m b + b = (a + b) / 2 + m := by unfold sS0; split <;> omega
        have hRe : sR0 a m b = m ∨ sR0 a m b = (a + b) / 2 := by unfold sR0; split <;> omega
        have hp : ∀ c, sS0 a m b ≤ c → c < sR0 a m b → pl3 (A ++ (X ++ (Y ++ C))) ((a + b) / 2 + m - 1) c = decide (¬ nlt (at_nod Y ((a + b) / 2 - 1 - c)) (at_nod X (c - a))) := fun c q1 q2 => by
          unfold pl3
          rw [atX c (by omega) (by omega), atY _ (by omega) (by omega), show (a + b) / 2 + m - 1 - c - m = (a + b) / 2 - 1 - c by omega]
        have hs := bsr_spec (p := pl3 (A ++ (X ++ (Y ++ C))) ((a + b) / 2 + m - 1)) (sR0 a m b - sS0 a m b) (i := sS0 a m b) (j := sR0 a m b) (lo := sS0 a m b) (hi := sR0 a m b) (fun c d q1 q2 q3 q4 => by
          rw [hp d (by omega) q3] at q4
          rw [hp c q1 (by omega)]
          exact decide_eq_true (nle_trans (asc_at hX (show c - a ≤ d - a by omega) (by omega)) (nle_trans (of_decide_eq_true q4) (asc_at hY (show (a + b) / 2 - 1 - d ≤ (a + b) / 2 - 1 - c by omega) (by omega))))) (Nat.le_refl _) hSR (Nat.le_refl _) (Nat.le_refl _) (fun c q1 q2 => by omega) (fun c q1 q2 => by omega)
        have hr := bsr_le (p := pl3 (A ++ (X ++ (Y ++ C))) ((a + b) / 2 + m - 1)) (f := sR0 a m b - sS0 a m b) (i := sS0 a m b) (j := sR0 a m b) hSR
        show (if (a + b) / 2 < (a + b) / 2 + m - sS (A ++ (X ++ (Y ++ C))) a m b ∧ _ then _ else _) = _
        rw [show sS (A ++ (X ++ (Y ++ C))) a m b = bsr (pl3 (A ++ (X ++ (Y ++ C))) ((a + b) / 2 + m - 1)) (sR0 a m b - sS0 a m b) (sS0 a m b) (sR0 a m b) from rfl]
        generalize bsr (pl3 (A ++ (X ++ (Y ++ C))) ((a + b) / 2 + m - 1)) (sR0 a m b - sS0 a m b) (sS0 a m b) (sR0 a m b) = s at hs hr ⊢
        have k1 : ∀ x ∈ X.take (s - a), ∀ y ∈ Y.drop ((a + b) / 2 - s), ¬ nlt y x := fun x hx y hy => by
          obtain ⟨i, q1, q2, rfl⟩ := mem_take_at hx
          obtain ⟨j, q3, q4, rfl⟩ := mem_drop_at hy
          have hlt : sS0 a m b ≤ s - 1 ∧ s - 1 < s := by omega
          have := hs.1 (s - 1) hlt.1 hlt.2
          rw [hp _ (by omega) (by omega)] at this
          have := of_decide_eq_true this
          exact nle_trans (asc_at hX (show i ≤ s - 1 - a by omega) (by omega)) (nle_trans this (asc_at hY (show (a + b) / 2 - 1 - (s - 1) ≤ j by omega) q4))
        have k2 : ∀ x ∈ X.drop (s - a), ∀ y ∈ Y.take ((a + b) / 2 - s), nlt y x := fun x hx y hy => by
          obtain ⟨i, q1, q2, rfl⟩ := mem_drop_at hx
          obtain ⟨j, q3, q4, rfl⟩ := mem_take_at hy
          have := hs.2 s (by omega) (by omega)
          rw [hp _ (by omega) (by omega)] at this
          have := Decidable.not_not.1 (of_decide_eq_false this)
          exact nlt_neg (nlt_neg2 (asc_at hY (show j ≤ (a + b) / 2 - 1 - s by omega) (by omega)) this) (asc_at hX (show s - a ≤ i by omega) q2)
        have l1 : (X.take (s - a)).length = s - a := by rw [List.length_take]; omega
        have l2 : (X.drop (s - a)).length = m - s := by rw [List.length_drop]; omega
        have l3 : (Y.take ((a + b) / 2 - s)).length = (a + b) / 2 - s := by rw [List.length_take]; omega
        have l4 : (Y.drop ((a + b) / 2 - s)).length = Y.length - ((a + b) / 2 - s) := List.length_drop
        have a1 : Asc (X.take (s - a)) := hX.sublist (List.take_sublist _ _)
        have a2 : Asc (X.drop (s - a)) := hX.sublist (List.drop_sublist _ _)
        have a3 : Asc (Y.take ((a + b) / 2 - s)) := hY.sublist (List.take_sublist _ _)
        have a4 : Asc (Y.drop ((a + b) / 2 - s)) := hY.sublist (List.drop_sublist _ _)
        have eX : X = X.take (s - a) ++ X.drop (s - a) := (List.take_append_drop _ X).symm
        have eY : Y = Y.take ((a + b) / 2 - s) ++ Y.drop ((a + b) / 2 - s) := (List.take_append_drop _ Y).symm
        have hXl : X.length = m - a := by omega
        have hYl : Y.length = b - m := by omega
        clear hs hp atX atY
        generalize X.take (s - a) = X1 at *
        generalize X.drop (s - a) = X2 at *
        generalize Y.take ((a + b) / 2 - s) = Y1 at *
        generalize Y.drop ((a + b) / 2 - s) = Y2 at *
        subst eX
        subst eY
        rw [mrg_split X1 X2 Y1 Y2 k1 k2]
        have e1 : (if s < m ∧ m < (a + b) / 2 + m - s then rot (A ++ (X1 ++ X2 ++ (Y1 ++ Y2 ++ C))) s m ((a + b) / 2 + m - s) else A ++ (X1 ++ X2 ++ (Y1 ++ Y2 ++ C))) = A ++ (X1 ++ (Y1 ++ (X2 ++ (Y2 ++ C)))) := by
          split
          · have := rot_app (A ++ X1) X2 Y1 (Y2 ++ C) (a := s) (m := m) (b := (a + b) / 2 + m - s) (by simp; omega) (by simp; omega) (by simp; omega) (by omega) (by omega)
            simpa using this
          · rename_i q
            have : X2 = [] ∨ Y1 = [] := by
              by_cases q1 : s < m
              · exact .inr (List.length_eq_zero_iff.1 (by omega))
              · exact .inl (List.length_eq_zero_iff.1 (by omega))
            rcases this with rfl | rfl <;> simp
        rw [e1]
        have e2 : (if a < s ∧ s < (a + b) / 2 then smf f a s ((a + b) / 2) (A ++ (X1 ++ (Y1 ++ (X2 ++ (Y2 ++ C))))) else A ++ (X1 ++ (Y1 ++ (X2 ++ (Y2 ++ C))))) = A ++ (mrg X1 Y1 ++ (X2 ++ (Y2 ++ C))) := by
          split
          · exact smf_app f A X1 Y1 (X2 ++ (Y2 ++ C)) a1 a3 ha (by omega) (by omega) (by omega) (by omega) (by omega)
          · rename_i q
            have : X1 = [] ∨ Y1 = [] := by
              by_cases q1 : a < s
              · exact .inr (List.length_eq_zero_iff.1 (by omega))
              · exact .inl (List.length_eq_zero_iff.1 (by omega))
            rcases this with rfl | rfl <;> simp
        rw [e2]
        have lm := mrg_len X1 Y1
        split
        · have := smf_app f (A ++ mrg X1 Y1) X2 Y2 C (a := (a + b) / 2) (m := (a + b) / 2 + m - s) (b := b) a2 a4 (by simp; omega) (by simp; omega) (by simp; omega) (by omega) (by omega) (by omega)
          simp only [List.append_assoc] at this ⊢
          exact this
        · rename_i q
          have : X2 = [] ∨ Y2 = [] := by
            by_cases q1 : (a + b) / 2 < (a + b) / 2 + m - s
            · exact .inr (List.length_eq_zero_iff.1 (by omega))
            · exact .inl (List.length_eq_zero_iff.1 (by omega))
          rcases this with rfl | rfl <;> simp

theorem srt_nil : srt [] = [] := rfl
/-- Sorted in blocks of k. -/
def bks (k : Nat) (L : List Nod) : List Nod := if h : k = 0 ∨ L.length ≤ k then srt L else srt (L.take k) ++ bks k (L.drop k)
termination_by L.length
decreasing_by rw [List.length_drop]; omega
theorem bks_end {k : Nat} {L : List Nod} (h : L.length ≤ k) : bks k L = srt L := by unfold bks; rw [dif_pos (.inr h)]
theorem bks_step {k : Nat} {L : List Nod} (h0 : 0 < k) (h : k ≤ L.length) : bks k L = srt (L.take k) ++ bks k (L.drop k) := by
  by_cases h1 : L.length ≤ k
  · have e : k = L.length := by omega
    rw [bks_end h1, bks_end (by rw [List.length_drop]; omega), e, List.take_length, List.drop_length, srt_nil, List.append_nil]
  · conv => lhs; unfold bks
    rw [dif_neg (by omega)]
def Sti (L : List Nod) (a : Nat) (M : List Nod) : Prop := ∃ P, M = P ++ L.drop a ∧ P.length = a ∧ bks 20 L = P ++ bks 20 (L.drop a)
theorem sti_0 (L : List Nod) : Sti L 0 L := ⟨[], rfl, rfl, rfl⟩
theorem sti_step {L M : List Nod} {a : Nat} (x : Sti L a M) (h : a + 20 ≤ L.length) : Sti L (a + 20) (isort M a (a + 20)) := by
  obtain ⟨P, rfl, hP, hB⟩ := x
  have e : L.drop a = (L.drop a).take 20 ++ L.drop (a + 20) := by rw [← List.drop_drop, List.take_append_drop]
  have l1 : ((L.drop a).take 20).length = 20 := by rw [List.length_take, List.length_drop]; omega
  refine ⟨P ++ srt ((L.drop a).take 20), ?_, by rw [List.length_append, srt_len, l1, hP], ?_⟩
  · rw [e, isort_app P _ _ hP.symm (by rw [l1, hP]), ← e, List.append_assoc]
  · rw [hB, bks_step (k := 20) (by omega) (by rw [List.length_drop]; omega), List.drop_drop, List.append_assoc]
theorem sti_end {L M : List Nod} {a : Nat} (x : Sti L a M) (h : L.length ≤ a + 20) (h2 : a ≤ L.length) : isort M a L.length = bks 20 L := by
  obtain ⟨P, rfl, hP, hB⟩ := x
  have := isort_app P (L.drop a) [] (a := a) (b := L.length) hP.symm (by rw [List.length_drop]; omega)
  rw [List.append_nil, List.append_nil] at this
  rw [this, hB, bks_end (k := 20) (by rw [List.length_drop]; omega)]
def Stm (k : Nat) (L : List Nod) (a : Nat) (M : List Nod) : Prop := ∃ P, M = P ++ bks k (L.drop a) ∧ P.length = a ∧ bks (2 * k) L = P ++ bks (2 * k) (L.drop a)
theorem stm_0 (k : Nat) (L : List Nod) : Stm k L 0 (bks k L) := ⟨[], rfl, rfl, rfl⟩
theorem stm_step {k : Nat} {L M : List Nod} {a : Nat} (x : Stm k L a M) (hk : 0 < k) (h : a + 2 * k ≤ L.length) : Stm k L (a + 2 * k) (smg M a (a + k) (a + 2 * k)) := by
  obtain ⟨P, rfl, hP, hB⟩ := x
  have l0 : (L.drop a).length = L.length - a := List.length_drop
  have e : bks k (L.drop a) = srt ((L.drop a).take k) ++ (srt (((L.drop a).drop k).take k) ++ bks k (L.drop (a + 2 * k))) := by
    rw [bks_step hk (by omega), bks_step (L := (L.drop a).drop k) hk (by rw [List.length_drop]; omega), List.drop_drop, List.drop_drop, show a + k + k = a + 2 * k by omega]
  have l1 : ((L.drop a).take k).length = k := by rw [List.length_take]; omega
  have l2 : (((L.drop a).drop k).take k).length = k := by rw [List.length_take, List.length_drop]; omega
  have t1 : (L.drop a).take k ++ ((L.drop a).drop k).take k = (L.drop a).take (2 * k) := by
    rw [show 2 * k = k + k by omega, List.take_add]
  have s1 := smf_app (a + 2 * k - a) P (srt ((L.drop a).take k)) (srt (((L.drop a).drop k).take k)) (bks k (L.drop (a + 2 * k))) (a := a) (m := a + k) (b := a + 2 * k) (srt_asc _) (srt_asc _) hP.symm (by rw [srt_len]; omega) (by rw [srt_len, srt_len]; omega) (by rw [srt_len]; omega) (by rw [srt_len]; omega) (by omega)
  refine ⟨P ++ srt ((L.drop a).take (2 * k)), ?_, by rw [List.length_append, srt_len, List.length_take]; omega, ?_⟩
  · unfold smg
    rw [e, s1, mrg_srt, t1, List.append_assoc]
  · rw [hB, bks_step (k := 2 * k) (by omega) (by omega), List.drop_drop, List.append_assoc]
theorem stm_end1 {k : Nat} {L M : List Nod} {a : Nat} (x : Stm k L a M) (hk : 0 < k) (h : a + k < L.length) (h2 : L.length ≤ a + 2 * k) : smg M a (a + k) L.length = bks (2 * k) L := by
  obtain ⟨P, rfl, hP, hB⟩ := x
  have l0 : (L.drop a).length = L.length - a := List.length_drop
  have e : bks k (L.drop a) = srt ((L.drop a).take k) ++ (srt ((L.drop a).drop k) ++ []) := by
    rw [bks_step hk (by omega), bks_end (L := (L.drop a).drop k) (by rw [List.length_drop]; omega), List.append_nil]
  have l1 : ((L.drop a).take k).length = k := by rw [List.length_take]; omega
  have l2 : ((L.drop a).drop k).length = L.length - a - k := by rw [List.length_drop]; omega
  have s1 := smf_app (L.length - a) P (srt ((L.drop a).take k)) (srt ((L.drop a).drop k)) [] (a := a) (m := a + k) (b := L.length) (srt_asc _) (srt_asc _) hP.symm (by rw [srt_len]; omega) (by rw [srt_len, srt_len]; omega) (by rw [srt_len]; omega) (by rw [srt_len]; omega) (by omega)
  unfold smg
  rw [e, s1, mrg_srt, List.take_append_drop, hB, bks_end (k := 2 * k) (by omega), List.append_nil]
theorem stm_end0 {k : Nat} {L M : List Nod} {a : Nat} (x : Stm k L a M) (h : L.length ≤ a + k) : M = bks (2 * k) L := by
  obtain ⟨P, rfl, hP, hB⟩ := x
  have l0 : (L.drop a).length = L.length - a := List.length_drop
  rw [hB, bks_end (by omega), bks_end (by omega)]
end Go.Xp
