/- Layer 14 (flatten): data are stored once per class. -/
import Derived.Test.YtknimfbagbkjfaaDoorFlaN
import Derived.Test.YtknimfbagbkjfaaDoorFlaH
set_option linter.unusedSimpArgs false
set_option linter.unusedVariables false
set_option linter.unusedSectionVars false
namespace Go.Xp
open Go.Proofs

def isf (x : Nod) : Nat := if x.kind = 1 then 1 else 0
def hfl (l : List Nod) : Nat → Nat
  | 0 => 0
  | k + 1 => hfl l k + if (at_nod l k).kind = 1 then 1 else 0
def hal (l : List Nod) : Nat → Nat
  | 0 => 0
  | k + 1 => hal l k + if (at_nod l k).kind = 1 ∧ (at_nod l k).cls = 0 then 1 else 0
def hcm (l : List Nod) : Nat → List (Int × Int)
  | 0 => []
  | k + 1 => if ((at_nod l k).kind = 1 ∧ ¬ (at_nod l k).cls = 0) ∧ ihas (hcm l k) (at_nod l k).cls = false then iset (hcm l k) (at_nod l k).cls 1 else hcm l k
def hby (l : List Nod) : Nat → Nat
  | 0 => 0
  | k + 1 => hby l k + if (at_nod l k).kind = 1 ∧ ((at_nod l k).cls = 0 ∨ ihas (hcm l k) (at_nod l k).cls = false) then (at_nod l k).data.length else 0
def mlk (M : List Mem) : Nat → Nat
  | 0 => 0
  | k + 1 => mlk M k + if (at_mem M k).kind = 3 then 1 else 0
def mst (M : List Mem) : Nat → Nat
  | 0 => 0
  | k + 1 => mst M k + (at_mem M k).data.length
theorem hfl_s (l : List Nod) (k : Nat) : hfl l (k + 1) = hfl l k + if (at_nod l k).kind = 1 then 1 else 0 := rfl
theorem hal_s (l : List Nod) (k : Nat) : hal l (k + 1) = hal l k + if (at_nod l k).kind = 1 ∧ (at_nod l k).cls = 0 then 1 else 0 := rfl
theorem hcm_s (l : List Nod) (k : Nat) : hcm l (k + 1) = if ((at_nod l k).kind = 1 ∧ ¬ (at_nod l k).cls = 0) ∧ ihas (hcm l k) (at_nod l k).cls = false then iset (hcm l k) (at_nod l k).cls 1 else hcm l k := rfl
theorem hby_s (l : List Nod) (k : Nat) : hby l (k + 1) = hby l k + if (at_nod l k).kind = 1 ∧ ((at_nod l k).cls = 0 ∨ ihas (hcm l k) (at_nod l k).cls = false) then (at_nod l k).data.length else 0 := rfl
theorem mlk_s (M : List Mem) (k : Nat) : mlk M (k + 1) = mlk M k + if (at_mem M k).kind = 3 then 1 else 0 := rfl
theorem mst_s (M : List Mem) (k : Nat) : mst M (k + 1) = mst M k + (at_mem M k).data.length := rfl
theorem hfl_le (l : List Nod) : ∀ k, hfl l k ≤ k
  | 0 => Nat.le_refl _
  | k + 1 => by have := hfl_le l k; unfold hfl; split <;> omega
theorem hal_le (l : List Nod) : ∀ k, hal l k ≤ k
  | 0 => Nat.le_refl _
  | k + 1 => by have := hal_le l k; unfold hal; split <;> omega
theorem mlk_le (M : List Mem) : ∀ k, mlk M k ≤ k
  | 0 => Nat.le_refl _
  | k + 1 => by have := mlk_le M k; unfold mlk; split <;> omega
theorem hby_le {l : List Nod} {b : Nat} (h : ∀ x ∈ l, x.data.length ≤ b) : ∀ k, k ≤ l.length → hby l k ≤ b * k
  | 0, _ => Nat.zero_le _
  | k + 1, hk => by
    have h1 := hby_le h k (by omega)
    have h2 := h _ (can_mem (l := l) (k := k) (by omega))
    unfold hby
    rw [Nat.mul_succ]
    split <;> omega
theorem mst_le {M : List Mem} {b : Nat} (h : ∀ k, k < M.length → (at_mem M k).data.length ≤ b) : ∀ k, k ≤ M.length → mst M k ≤ b * k
  | 0, _ => Nat.zero_le _
  | k + 1, hk => by
    have h1 := mst_le h k (by omega)
    have h2 := h k (by omega)
    unfold mst
    rw [Nat.mul_succ]
    omega
theorem rev_take {l : List Nod} {k : Nat} (h : k < l.length) : (l.take (k + 1)).reverse = at_nod l k :: (l.take k).reverse := by rw [take_at h, List.reverse_append]; rfl
theorem anyc_rev (L : List Nod) (c : Int) : anyc L.reverse c = anyc L c := anyc_perm (List.reverse_perm L) c
theorem anyc_take {l : List Nod} {k : Nat} (h : k < l.length) (c : Int) : anyc (l.take (k + 1)) c = (decide ((at_nod l k).kind = 1 ∧ (at_nod l k).cls = c) || anyc (l.take k) c) := by
  rw [← anyc_rev, rev_take h, anyc_cons, anyc_rev]
theorem hcm_has (l : List Nod) (c : Int) (hc : ¬ c = 0) : ∀ k, k ≤ l.length → ihas (hcm l k) c = anyc (l.take k) c
  | 0, _ => rfl
  | k + 1, h => by
    have ih := hcm_has l c hc k (by omega)
    rw [anyc_take (by omega), ← ih, hcm_s]
    by_cases e : (at_nod l k).kind = 1 ∧ (at_nod l k).cls = c
    · rw [decide_eq_true e, Bool.true_or]
      split
      · rw [ihas_iset]; simp [e.2]
      · rename_i q
        cases hh : ihas (hcm l k) c with
        | true => rfl
        | false => exact absurd ⟨⟨e.1, by rw [e.2]; exact hc⟩, by rw [e.2]; exact hh⟩ q
    · rw [decide_eq_false e, Bool.false_or]
      split
      · rename_i q
        rw [ihas_iset, decide_eq_false (fun r => e ⟨q.1.1, r.symm⟩), Bool.false_or]
      · rfl
theorem iset_len_has : ∀ (m : List (Int × Int)) (k v : Int), ihas m k = false → (iset m k v).length = m.length + 1
  | [], _, _, _ => rfl
  | p :: m, k, v, h => by
    unfold ihas at h
    split at h
    · cases h
    · rename_i hk
      unfold iset
      rw [if_neg hk, List.length_cons, iset_len_has m k v h]; rfl
theorem hcm_le (l : List Nod) : ∀ k, (hcm l k).length ≤ k
  | 0 => Nat.le_refl _
  | k + 1 => by
    have := hcm_le l k
    unfold hcm
    split
    · have := iset_len_le (hcm l k) (at_nod l k).cls 1; omega
    · omega
theorem gcond {l : List Nod} {k : Nat} (h : k < l.length) : ((at_nod l k).kind = 1 ∧ ((at_nod l k).cls = 0 ∨ anyc (l.take k).reverse (at_nod l k).cls = false)) ↔ ((at_nod l k).kind = 1 ∧ ((at_nod l k).cls = 0 ∨ ihas (hcm l k) (at_nod l k).cls = false)) := by
  by_cases hc : (at_nod l k).cls = 0
  · simp [hc]
  · rw [anyc_rev, hcm_has l _ hc k (by omega)]
theorem hby_g (l : List Nod) : ∀ k, k ≤ l.length → hby l k = Gw (fun x => x.data.length) (l.take k).reverse
  | 0, _ => rfl
  | k + 1, h => by
    rw [rev_take (by omega), Gw_cons, ← hby_g l k (by omega), if_same (gcond (by omega))]
    rw [hby_s]; omega
theorem hal_g (l : List Nod) : ∀ k, k ≤ l.length → hal l k + (hcm l k).length = Gw (fun _ => 1) (l.take k).reverse
  | 0, _ => rfl
  | k + 1, h => by
    rw [rev_take (by omega), Gw_cons, ← hal_g l k (by omega), if_same (gcond (by omega))]
    rw [hal_s, hcm_s]
    by_cases hk : (at_nod l k).kind = 1
    · by_cases hc : (at_nod l k).cls = 0
      · simp [hk, hc]; omega
      · cases hh : ihas (hcm l k) (at_nod l k).cls with
        | true => simp [hk, hc, hh]
        | false => simp [hk, hc, hh]; rw [iset_len_has _ _ _ hh]; omega
    · simp [hk]
theorem hfl_c (l : List Nod) : ∀ k, k ≤ l.length → hfl l k = (l.take k).countP (fun x => decide (x.kind = 1))
  | 0, _ => rfl
  | k + 1, h => by
    rw [take_at (by omega), List.countP_append, ← hfl_c l k (by omega)]
    rw [hfl_s]
    by_cases hk : (at_nod l k).kind = 1 <;> simp [hk]
theorem hfl_cno (l : List Nod) : hfl (cno l) l.length = hfl l l.length := by
  have e1 := hfl_c l l.length (Nat.le_refl _)
  have e2 := hfl_c (cno l) (cno l).length (Nat.le_refl _)
  rw [List.take_length] at e1 e2
  rw [cno_len] at e2
  rw [e1, e2]
  unfold cno
  rw [renum_map, List.countP_map, (srt_perm (l.map er)).countP_eq, List.countP_map]
  rfl
theorem gall {w : Nod → Nat} {l : List Nod} (hw : ∀ x ∈ l, ∀ y ∈ l, x.cls = y.cls → ¬ y.cls = 0 → w x = w y) : Gw w (l.take l.length).reverse = Gw w l := by
  rw [List.take_length]
  exact Gw_perm (List.reverse_perm l) (fun x hx y hy => hw x (List.mem_reverse.1 hx) y (List.mem_reverse.1 hy))
theorem at_tk (C : List Nod) {k j : Nat} (h : j < k) : at_nod (C.take k) j = at_nod C j := by
  unfold at_nod
  rw [List.getD_eq_getElem?_getD, List.getD_eq_getElem?_getD, List.getElem?_take_of_lt h]
theorem lk_any {C : List Nod} (hC : Cano C) {k : Nat} (h : k < C.length) : Lk C k ↔ ((at_nod C k).kind = 1 ∧ ¬ ((at_nod C k).cls = 0 ∨ anyc (C.take k).reverse (at_nod C k).cls = false)) := by
  have h0 := (tone_parts (hC.set.one _ (can_mem h))).2.2.2.1
  rw [anyc_rev]
  unfold Lk
  constructor
  · rintro ⟨⟨a, b⟩, c⟩
    refine ⟨a, ?_⟩
    rintro (q | q)
    · omega
    · have hf := nfirst_cls (l := C) (c := (at_nod C k).cls) (by omega)
      have : anyc (C.take k) (at_nod C k).cls = true := anyc_iff.2 ⟨at_nod C (nfirst C (at_nod C k).cls), by
        have e := at_tk C c
        rw [← e]; exact can_mem (by rw [List.length_take]; omega), hC.set.cfl _ (can_mem (by omega)) (by rw [hf]; exact b), hf⟩
      rw [this] at q; cases q
  · rintro ⟨a, b⟩
    have hc : ¬ (at_nod C k).cls = 0 := fun q => b (.inl q)
    refine ⟨⟨a, by omega⟩, ?_⟩
    have : anyc (C.take k) (at_nod C k).cls = true := by
      cases hh : anyc (C.take k) (at_nod C k).cls with
      | true => rfl
      | false => exact absurd (.inr hh) b
    obtain ⟨y, hy, -, e⟩ := anyc_iff.1 this
    obtain ⟨j, hj, hjl, rfl⟩ := mem_take_at hy
    apply Decidable.byContradiction
    intro q
    exact nfirst_ne (l := C) (c := (at_nod C k).cls) (k := j) (by omega) e
section
variable {C : List Nod} {M : List Mem}
theorem mem_msp (hM : M.map erm = mem1 C) {k : Nat} (h : k < C.length) : erm (at_mem M k) = msp C k := by
  rw [← at_erm, hM]
  unfold mem1 at_mem
  rw [List.getD_eq_getElem?_getD, List.getElem?_map, List.getElem?_range h]; rfl
theorem mlk_g (hC : Cano C) (hM : M.map erm = mem1 C) : ∀ k, k ≤ C.length → mlk M k + Gw (fun _ => 1) (C.take k).reverse = hfl C k
  | 0, _ => rfl
  | k + 1, h => by
    have ih := mlk_g hC hM k (by omega)
    have e := mem_msp hM (k := k) (by omega)
    have ek : (at_mem M k).kind = (msp C k).kind := show (erm (at_mem M k)).kind = (msp C k).kind by rw [e]
    rw [rev_take (by omega), Gw_cons]
    rw [mlk_s, hfl_s, ek]
    by_cases hl : Lk C k
    · have hq := (lk_any hC (by omega)).1 hl
      rw [if_pos ((msp_kind hC (by omega)).2 hl), if_pos hq.1, if_neg (fun q => hq.2 q.2)]
      omega
    · rw [if_neg (fun q => hl ((msp_kind hC (by omega)).1 q))]
      by_cases hk : (at_nod C k).kind = 1
      · have hq : (at_nod C k).cls = 0 ∨ anyc (C.take k).reverse (at_nod C k).cls = false := by
          apply Classical.byContradiction
          intro q; exact hl ((lk_any hC (by omega)).2 ⟨hk, q⟩)
        rw [if_pos hk, if_pos ⟨hk, hq⟩]; omega
      · rw [if_neg hk, if_neg (fun q => hk q.1)]; omega
theorem mst_g (hC : Cano C) (hM : M.map erm = mem1 C) : ∀ k, k ≤ C.length → mst M k = Gw (fun x => x.data.length) (C.take k).reverse
  | 0, _ => rfl
  | k + 1, h => by
    have ih := mst_g hC hM k (by omega)
    have e := mem_msp hM (k := k) (by omega)
    have ed : (at_mem M k).data = (msp C k).data := show (erm (at_mem M k)).data = (msp C k).data by rw [e]
    rw [rev_take (by omega), Gw_cons, ← ih, mst_s, ed]
    by_cases hl : Lk C k
    · have hq := (lk_any hC (by omega)).1 hl
      rw [msp_lk hl, if_neg (fun q => hq.2 q.2)]; simp
    · rw [msp_nl hl]
      by_cases hk : (at_nod C k).kind = 1
      · have hq : (at_nod C k).cls = 0 ∨ anyc (C.take k).reverse (at_nod C k).cls = false := by
          apply Classical.byContradiction
          intro q; exact hl ((lk_any hC (by omega)).2 ⟨hk, q⟩)
        rw [if_pos hk, if_pos ⟨hk, hq⟩]; simp; omega
      · rw [if_neg hk, if_neg (fun q => hk q.1)]; simp
end
theorem links_ok {l : List Nod} {M : List Mem} (hz : terr l = 0) (hM : M.map erm = mbs l) : (mlk M M.length : Int) = (hfl l l.length : Int) - (hal l l.length : Int) - ((hcm l l.length).length : Int) ∧ (mst M M.length : Int) = (hby l l.length : Int) := by
  have hT := (tok_of hz).set
  have hC := Cano.of hT
  unfold mbs at hM
  rw [if_pos hz] at hM
  have hl : M.length = (cno l).length := by
    have := congrArg List.length hM
    unfold mem1 at this; simpa using this
  have w1 : ∀ x ∈ l, ∀ y ∈ l, x.cls = y.cls → ¬ y.cls = 0 → (fun _ : Nod => 1) x = (fun _ : Nod => 1) y := fun _ _ _ _ _ _ => rfl
  have w2 : ∀ x ∈ l, ∀ y ∈ l, x.cls = y.cls → ¬ y.cls = 0 → (fun x : Nod => x.data.length) x = (fun x : Nod => x.data.length) y := fun x hx y hy e hn => congrArg List.length (hT.agr x hx y hy e hn).2
  have v1 : ∀ x ∈ cno l, ∀ y ∈ cno l, x.cls = y.cls → ¬ y.cls = 0 → (fun _ : Nod => 1) x = (fun _ : Nod => 1) y := fun _ _ _ _ _ _ => rfl
  have v2 : ∀ x ∈ cno l, ∀ y ∈ cno l, x.cls = y.cls → ¬ y.cls = 0 → (fun x : Nod => x.data.length) x = (fun x : Nod => x.data.length) y := fun x hx y hy e hn => congrArg List.length (hC.set.agr x hx y hy e hn).2
  have a1 := mlk_g hC hM (cno l).length (Nat.le_refl _)
  have a2 := mst_g hC hM (cno l).length (Nat.le_refl _)
  have b1 := hal_g l l.length (Nat.le_refl _)
  have b2 := hby_g l l.length (Nat.le_refl _)
  rw [gall v1, Gw_cno (w := fun _ => 1) hT (fun _ => rfl) (fun _ _ => rfl) w1] at a1
  rw [gall v2, Gw_cno (w := fun x => x.data.length) hT (fun _ => rfl) (fun _ _ => rfl) w2] at a2
  rw [gall w1] at b1
  rw [gall w2] at b2
  have c1 := hfl_cno l
  rw [cno_len] at a1
  rw [hl, cno_len]
  rw [cno_len] at a2
  refine ⟨?_, ?_⟩
  · omega
  · omega

theorem hs_a {l : List Nod} {k : Nat} (a : ¬ (at_nod l k).kind = 1) : hfl l (k + 1) = hfl l k ∧ hal l (k + 1) = hal l k ∧ hcm l (k + 1) = hcm l k ∧ hby l (k + 1) = hby l k := by
  refine ⟨?_, ?_, ?_, ?_⟩
  · show hfl l k + _ = _; rw [if_neg a, Nat.add_zero]
  · show hal l k + _ = _; rw [if_neg (fun q => a q.1), Nat.add_zero]
  · conv => lhs; unfold hcm
    rw [if_neg (fun q => a q.1.1)]
  · show hby l k + _ = _; rw [if_neg (fun q => a q.1), Nat.add_zero]
theorem hs_b {l : List Nod} {k : Nat} (a : (at_nod l k).kind = 1) (b : (at_nod l k).cls = 0) : hfl l (k + 1) = hfl l k + 1 ∧ hal l (k + 1) = hal l k + 1 ∧ hcm l (k + 1) = hcm l k ∧ hby l (k + 1) = hby l k + (at_nod l k).data.length := by
  refine ⟨?_, ?_, ?_, ?_⟩
  · show hfl l k + _ = _; rw [if_pos a]
  · show hal l k + _ = _; rw [if_pos ⟨a, b⟩]
  · conv => lhs; unfold hcm
    rw [if_neg (fun q => q.1.2 b)]
  · show hby l k + _ = _; rw [if_pos ⟨a, .inl b⟩]
theorem hs_c {l : List Nod} {k : Nat} (a : (at_nod l k).kind = 1) (b : ¬ (at_nod l k).cls = 0) (d : ihas (hcm l k) (at_nod l k).cls = true) : hfl l (k + 1) = hfl l k + 1 ∧ hal l (k + 1) = hal l k ∧ hcm l (k + 1) = hcm l k ∧ hby l (k + 1) = hby l k := by
  refine ⟨?_, ?_, ?_, ?_⟩
  · show hfl l k + _ = _; rw [if_pos a]
  · show hal l k + _ = _; rw [if_neg (fun q => b q.2), Nat.add_zero]
  · conv => lhs; unfold hcm
    rw [if_neg (fun q => by rw [d] at q; cases q.2)]
  · show hby l k + _ = _; rw [if_neg (fun q => q.2.elim b (fun r => by rw [d] at r; cases r)), Nat.add_zero]
theorem hs_d {l : List Nod} {k : Nat} (a : (at_nod l k).kind = 1) (b : ¬ (at_nod l k).cls = 0) (d : ihas (hcm l k) (at_nod l k).cls = false) : hfl l (k + 1) = hfl l k + 1 ∧ hal l (k + 1) = hal l k ∧ hcm l (k + 1) = iset (hcm l k) (at_nod l k).cls 1 ∧ hby l (k + 1) = hby l k + (at_nod l k).data.length := by
  refine ⟨?_, ?_, ?_, ?_⟩
  · show hfl l k + _ = _; rw [if_pos a]
  · show hal l k + _ = _; rw [if_neg (fun q => b q.2), Nat.add_zero]
  · conv => lhs; unfold hcm
    rw [if_pos ⟨⟨a, b⟩, d⟩]
  · show hby l k + _ = _; rw [if_pos ⟨a, .inr d⟩]
theorem mem_data_le {l : List Nod} {M : List Mem} {B : Nat} (hM : M.map erm = mbs l) (h : ∀ x ∈ l, x.data.length ≤ B) : ∀ k, k < M.length → (at_mem M k).data.length ≤ B := fun k hk => by
  have hl : M.length = (mbs l).length := by rw [← hM, List.length_map]
  unfold mbs at hM hl
  split at hM
  · rename_i hz
    rw [if_pos hz] at hl
    have hk2 : k < (cno l).length := by unfold mem1 at hl; rw [List.length_map, List.length_range] at hl; omega
    have e : (at_mem M k).data = (msp (cno l) k).data := show (erm (at_mem M k)).data = (msp (cno l) k).data by rw [mem_msp hM hk2]
    rw [e]
    have hd := cno_all (P := fun _ _ d => d.length ≤ B) h (at_nod (cno l) k) (can_mem hk2)
    unfold msp
    split
    · exact Nat.zero_le _
    · split
      · exact hd
      · exact Nat.zero_le _
  · rename_i hz
    have := congrArg List.length hM
    simp at this
    rw [this] at hk; simp at hk

set_option maxRecDepth 100000 in
theorem flattenHardLinks (h : Heap) (hK : GlbK h) (hE : GlbE h) (w : Value) (l : List Nod) (hl : Rows nodS h w l) (hn : l.length ≤ 140737488355328) (hs : ∀ x ∈ l, x.path.length ≤ 140737488355328 ∧ x.target.length ≤ 140737488355328 ∧ x.data.length ≤ 140737488355328) : Cal Tryd.prog 8 #[w] h (fun v h' => v = .bool true ∧ Ext h h') := by
  refine Cal_enter (args := [w]) Tryd.func8 rfl rfl rfl (fun σ => ?_)
  refine W_seq ?_
  refine W_region ?_
  refine L_yld (Y_assign rfl) rfl rfl rfl ?_
  refine L_nil ?_
  refine X_then ?_
  refine W_seq ?_
  refine W_seq ?_
  refine W_region ?_
  refine L_yld (Y_move rfl) rfl rfl rfl ?_
  refine L_call (E_call (by kernel_rfl) rfl) (law13_TooLarge _ w l hl hn hs) rfl rfl rfl ?_
  rintro _ h1 ⟨rfl, hx1⟩
  refine L_yld (Y_gtr rfl rfl) rfl rfl rfl ?_
  refine L_nil ?_
  refine X_then ?_
  refine W_sub _ (.cons (i := 20) rfl (.cons (i := 2) rfl (.cons (i := 0) rfl (.nil _)))) ?_
  refine W_splitd rfl (fun g => ?_) (fun g => ?_)
  · refine W_seq ?_
    refine W_region ?_
    refine L_call (E_call (by kernel_rfl) rfl) (law14_alive _ (hK.ext hx1) (hE.ext hx1)) rfl rfl rfl ?_
    rintro _ h2 ⟨rfl, hx2⟩
    refine L_yld (Y_assign rfl) rfl rfl rfl ?_
    refine L_nil ?_
    refine X_then ?_
    refine W_sub _ (.cons (i := 2) rfl (.cons (i := 0) rfl (.nil _))) ?_
    refine W_ret ?_
    refine X_then_ret ?_
    refine X_ret1 rfl rfl ?_
    exact ⟨rfl, (hx1.trans hx2)⟩
  · refine W_skip ?_
    refine X_then ?_
    refine W_sub _ (.cons (i := 2) rfl (.cons (i := 0) rfl (.nil _))) ?_
    have okA := can_okl g
    refine W_seq ?_
    refine W_region ?_
    refine L_yld (Y_move rfl) rfl rfl rfl ?_
    refine L_call (E_call (by kernel_rfl) rfl) (flatten_Members _ (hK.ext hx1) (hE.ext hx1) w l (hl.ext hx1) okA.2.1 okA.2.2) rfl rfl rfl ?_
    rintro _ h3 ⟨s03, L04, rfl, hr05, hq06, hx7⟩
    refine L_yld (Y_move rfl) rfl rfl rfl ?_
    refine L_yld (Y_extract (v := s03) rfl rfl) rfl rfl rfl ?_
    refine L_yld (Y_extract (v := .int .i64 (tpos l)) rfl rfl) rfl rfl rfl ?_
    refine L_yld (Y_extract (v := .int .i64 (terr l)) rfl rfl) rfl rfl rfl ?_
    refine L_yld (Y_assign rfl) rfl rfl rfl ?_
    refine L_yld (Y_assign rfl) rfl rfl rfl ?_
    refine L_yld (Y_assign rfl) rfl rfl rfl ?_
    refine L_nil ?_
    refine X_then ?_
    refine W_sub _ (.cons (i := 5) rfl (.cons (i := 3) rfl (.cons (i := 2) rfl (.cons (i := 0) rfl (.nil _))))) ?_
    refine W_seq ?_
    refine W_seq ?_
    refine W_region ?_
    refine L_yld (Y_move rfl) rfl rfl rfl ?_
    refine L_yld (Y_neq rfl rfl) rfl rfl rfl ?_
    refine L_nil ?_
    refine X_then ?_
    refine W_sub _ (.cons (i := 29) rfl (.cons (i := 3) rfl (.cons (i := 2) rfl (.cons (i := 0) rfl (.nil _))))) ?_
    refine W_splitd rfl (fun e => ?_) (fun e => ?_)
    · refine W_seq ?_
      refine W_region ?_
      refine L_call (E_call (by kernel_rfl) rfl) (law14_alive _ (hK.ext (hx1.trans hx7)) (hE.ext (hx1.trans hx7))) rfl rfl rfl ?_
      rintro _ h4 ⟨rfl, hx8⟩
      refine L_yld (Y_assign rfl) rfl rfl rfl ?_
      refine L_nil ?_
      refine X_then ?_
      refine W_sub _ (.cons (i := 2) rfl (.cons (i := 3) rfl (.cons (i := 0) rfl (.nil _)))) ?_
      refine W_ret ?_
      refine X_then_ret ?_
      refine X_ret1 rfl rfl ?_
      exact ⟨rfl, ((hx1.trans hx7).trans hx8)⟩
    · refine W_skip ?_
      refine X_then ?_
      refine W_sub _ (.cons (i := 3) rfl (.cons (i := 2) rfl (.cons (i := 0) rfl (.nil _)))) ?_
      have hz := Classical.not_not.1 e
      refine W_seq ?_
      refine W_region ?_
      refine L_mks (M_makeMapI) rfl rfl rfl ?_
      rintro _ h5 ⟨rfl, hx9, hb10⟩
      refine L_yld (Y_assign rfl) rfl rfl rfl ?_
      refine L_yld (Y_assign rfl) rfl rfl rfl ?_
      refine L_yld (Y_assign rfl) rfl rfl rfl ?_
      refine L_yld (Y_assign rfl) rfl rfl rfl ?_
      refine L_nil ?_
      refine X_then ?_
      refine W_sub _ (.cons (i := 9) rfl (.cons (i := 8) rfl (.cons (i := 7) rfl (.cons (i := 6) rfl (.cons (i := 3) rfl (.cons (i := 2) rfl (.cons (i := 0) rfl (.nil _)))))))) ?_
      refine W_seq ?_
      refine W_region ?_
      refine L_yld (Y_assign rfl) rfl rfl rfl ?_
      refine L_nil ?_
      refine X_then ?_
      refine W_seq ?_
      refine W_seq ?_
      refine W_region ?_
      refine L_yld (Y_move rfl) rfl rfl rfl ?_
      refine L_yld (Y_lenr Tryd.underlying32 rfl (hl.ext ((hx1.trans hx7).trans hx9))) rfl rfl rfl ?_
      refine L_yld (Y_move rfl) rfl rfl rfl ?_
      refine L_nil ?_
      refine X_then ?_
      refine W_sub _ (.cons (i := 34) rfl (.cons (i := 33) rfl (.cons (i := 32) rfl (.cons (i := 10) rfl (.cons (i := 9) rfl (.cons (i := 8) rfl (.cons (i := 7) rfl (.cons (i := 6) rfl (.cons (i := 3) rfl (.cons (i := 2) rfl (.nil _))))))))))) ?_
      refine W_block ?_
      refine W_loop (S := Nat) (fun k => [(33, .int .i64 ((l.length : Int))), (32, w), (8, .int .i64 0), (7, .map (some h3.size)), (3, s03), (2, .bool false), (6, .int .i64 ((hfl l k : Int))), (9, .int .i64 ((hby l k : Int))), (10, .int .i64 ((hal l k : Int))), (34, .int .i64 ((k : Int)))]) (fun k h' => k ≤ l.length ∧ Ext h3 h' ∧ MapI h' h3.size (hcm l k)) (fun k => l.length - k) 0 (.cons (i := 33) rfl (.cons (i := 32) rfl (.cons (i := 8) rfl (.cons (i := 7) rfl (.cons (i := 3) rfl (.cons (i := 2) rfl (.cons (i := 6) rfl (.cons (i := 9) rfl (.cons (i := 10) rfl (.cons (i := 34) rfl (.nil _))))))))))) ?_ ?_
      · exact ⟨Nat.zero_le _, hx9, hb10⟩
      rintro k h6 ⟨hk, hxL, hmL⟩
      show W _ _ _ _ _ [(33, .int .i64 ((l.length : Int))), (32, w), (8, .int .i64 0), (7, .map (some h3.size)), (3, s03), (2, .bool false), (6, .int .i64 ((hfl l k : Int))), (9, .int .i64 ((hby l k : Int))), (10, .int .i64 ((hal l k : Int))), (34, .int .i64 ((k : Int)))] _
      have hbl := hby_le (l := l) (b := 100000000000) (fun x hx => (okA.2.2 x hx).2.2) k hk
      have hfk := hfl_le l k
      have hak := hal_le l k
      refine W_seq ?_
      refine W_region ?_
      refine L_yld (Y_lss rfl rfl) rfl rfl rfl ?_
      refine L_nil ?_
      refine X_then ?_
      refine W_seq ?_
      refine W_splitd rfl (fun c => ?_) (fun c => ?_)
      · refine W_skip ?_
        refine X_then ?_
        refine W_sub _ (.cons (i := 33) rfl (.cons (i := 32) rfl (.cons (i := 8) rfl (.cons (i := 7) rfl (.cons (i := 3) rfl (.cons (i := 2) rfl (.cons (i := 6) rfl (.cons (i := 9) rfl (.cons (i := 10) rfl (.cons (i := 34) rfl (.nil _))))))))))) ?_
        refine W_seq ?_
        refine W_block ?_
        refine W_seq ?_
        refine W_region ?_
        refine L_yld (Y_idxr Tryd.underlying32 (show _ = some 6 by kernel_rfl) rfl rfl rfl (hl.ext ((hx1.trans hx7).trans hxL)) (by omega) (by omega)) rfl rfl rfl ?_
        refine L_yld (Y_ldrA0 (k := ((k : Int)).toNat) (us := [.int .i64 ((at_nod l ((k : Int)).toNat).kind), str ((at_nod l ((k : Int)).toNat).path), .int .i64 ((at_nod l ((k : Int)).toNat).mode), str ((at_nod l ((k : Int)).toNat).target), ((at_nod l ((k : Int)).toNat).dv), .int .i64 ((at_nod l ((k : Int)).toNat).cls)]) Tryd.underlying48 rfl (show _ = some 6 by kernel_rfl) rfl rfl (hl.ext ((hx1.trans hx7).trans hxL)) (by omega) rfl) rfl rfl rfl ?_
        refine L_mks (M_alloc (u := .agg #[.int .i64 0, str [], .int .i64 0, str [], .slice none 0 0, .int .i64 0]) (by kernel_rfl)) rfl rfl rfl ?_
        rintro _ h7 ⟨rfl, hn11⟩
        have hk12 : Blk h7 h6.size [.int .i64 0, str [], .int .i64 0, str [], .slice none 0 0, .int .i64 0] := hn11.blk
        refine L_dos (D_store (us := [.int .i64 ((at_nod l ((k : Int)).toNat).kind), str ((at_nod l ((k : Int)).toNat).path), .int .i64 ((at_nod l ((k : Int)).toNat).mode), str ((at_nod l ((k : Int)).toNat).target), ((at_nod l ((k : Int)).toNat).dv), .int .i64 ((at_nod l ((k : Int)).toNat).cls)]) (show _ = some 6 by kernel_rfl) rfl rfl rfl (by intro u_ hu_; simp only [List.mem_cons, List.not_mem_nil, or_false] at hu_; rcases hu_ with rfl | rfl | rfl | rfl | rfl | rfl <;> first | rfl | exact ((show Bytes _ ((at_nod l ((k : Int)).toNat).dv) ((at_nod l ((k : Int)).toNat).data) from (hl.ext (((hx1.trans hx7).trans hxL).trans hn11.ext)).okat (k := ((k : Int)).toNat) (by omega))).cell1) hk12 (by simp)) rfl rfl ?_
        rintro h8 hp13
        have hk14 : Blk h8 h6.size [.int .i64 ((at_nod l ((k : Int)).toNat).kind), str ((at_nod l ((k : Int)).toNat).path), .int .i64 ((at_nod l ((k : Int)).toNat).mode), str ((at_nod l ((k : Int)).toNat).target), ((at_nod l ((k : Int)).toNat).dv), .int .i64 ((at_nod l ((k : Int)).toNat).cls)] := hp13.blk
        refine L_nil ?_
        refine X_then ?_
        refine W_sub _ (.cons (i := 12) rfl (.cons (i := 33) rfl (.cons (i := 32) rfl (.cons (i := 8) rfl (.cons (i := 7) rfl (.cons (i := 3) rfl (.cons (i := 2) rfl (.cons (i := 6) rfl (.cons (i := 9) rfl (.cons (i := 10) rfl (.cons (i := 34) rfl (.nil _)))))))))))) ?_
        have hmm := okA.2.2 _ (can_mem (l := l) (k := (k : Int).toNat) (by omega))
        refine W_seq ?_
        refine W_seq ?_
        refine W_region ?_
        refine L_yld (Y_fieldAddr (off := 0) (by kernel_rfl) rfl rfl) rfl rfl rfl ?_
        refine L_yld (Y_ldblk Tryd.underlying3 rfl rfl hk14 rfl) rfl rfl rfl ?_
        refine L_yld (Y_neq rfl rfl) rfl rfl rfl ?_
        refine L_nil ?_
        refine X_then ?_
        refine W_sub _ (.cons (i := 40) rfl (.cons (i := 12) rfl (.cons (i := 33) rfl (.cons (i := 32) rfl (.cons (i := 8) rfl (.cons (i := 7) rfl (.cons (i := 3) rfl (.cons (i := 2) rfl (.cons (i := 6) rfl (.cons (i := 9) rfl (.cons (i := 10) rfl (.cons (i := 34) rfl (.nil _))))))))))))) ?_
        refine W_splitd rfl (fun a => ?_) (fun a => ?_)
        · refine W_exit ?_
          refine X_then_exit ?_
          refine X_block_hit ?_
          refine X_then ?_
          refine W_sub _ (.cons (i := 33) rfl (.cons (i := 32) rfl (.cons (i := 8) rfl (.cons (i := 7) rfl (.cons (i := 3) rfl (.cons (i := 2) rfl (.cons (i := 6) rfl (.cons (i := 9) rfl (.cons (i := 10) rfl (.cons (i := 34) rfl (.nil _))))))))))) ?_
          refine W_region ?_
          refine L_yld (Y_add rfl rfl (by omega) (by omega)) rfl rfl rfl ?_
          refine L_yld (Y_move rfl) rfl rfl rfl ?_
          refine L_nil ?_
          refine X_loop (k + 1) (.cons (i := 33) rfl (.cons (i := 32) rfl (.cons (i := 8) rfl (.cons (i := 7) rfl (.cons (i := 3) rfl (.cons (i := 2) rfl (.cons (i := 6) (lki rfl (by rw [(hs_a (k := k) a).1])) (.cons (i := 9) (lki rfl (by rw [(hs_a (k := k) a).2.2.2])) (.cons (i := 10) (lki rfl (by rw [(hs_a (k := k) a).2.1])) (.cons (i := 34) rfl (.nil _))))))))))) ?_ ?_
          · exact ⟨by omega, ((hxL.trans hn11.ext).then' hp13.only (by simp) hxL.size), MapI.congr (hmL.ext (hn11.ext.then' hp13.only (by simp) (Nat.le_refl _))) (hs_a (k := k) a).2.2.1.symm⟩
          · (try dsimp only)
            omega
        · refine W_skip ?_
          refine X_then ?_
          refine W_sub _ (.cons (i := 12) rfl (.cons (i := 33) rfl (.cons (i := 32) rfl (.cons (i := 8) rfl (.cons (i := 7) rfl (.cons (i := 3) rfl (.cons (i := 2) rfl (.cons (i := 6) rfl (.cons (i := 9) rfl (.cons (i := 10) rfl (.cons (i := 34) rfl (.nil _)))))))))))) ?_
          have a' : (at_nod l k).kind = 1 := Classical.not_not.1 a
          refine W_seq ?_
          refine W_region ?_
          refine L_yld (Y_move rfl) rfl rfl rfl ?_
          refine L_yld (Y_add rfl rfl (by omega) (by omega)) rfl rfl rfl ?_
          refine L_yld (Y_assign rfl) rfl rfl rfl ?_
          refine L_nil ?_
          refine X_then ?_
          refine W_sub _ (.cons (i := 6) rfl (.cons (i := 12) rfl (.cons (i := 33) rfl (.cons (i := 32) rfl (.cons (i := 8) rfl (.cons (i := 7) rfl (.cons (i := 3) rfl (.cons (i := 2) rfl (.cons (i := 9) rfl (.cons (i := 10) rfl (.cons (i := 34) rfl (.nil _)))))))))))) ?_
          refine W_seq ?_
          refine W_region ?_
          refine L_yld (Y_fieldAddr (off := 5) (by kernel_rfl) rfl rfl) rfl rfl rfl ?_
          refine L_yld (Y_ldblk Tryd.underlying3 rfl rfl hk14 rfl) rfl rfl rfl ?_
          refine L_yld (Y_eql rfl rfl) rfl rfl rfl ?_
          refine L_nil ?_
          refine X_then ?_
          refine W_sub _ (.cons (i := 45) rfl (.cons (i := 6) rfl (.cons (i := 12) rfl (.cons (i := 33) rfl (.cons (i := 32) rfl (.cons (i := 8) rfl (.cons (i := 7) rfl (.cons (i := 3) rfl (.cons (i := 2) rfl (.cons (i := 9) rfl (.cons (i := 10) rfl (.cons (i := 34) rfl (.nil _))))))))))))) ?_
          refine W_splitd rfl (fun b => ?_) (fun b => ?_)
          · refine W_seq ?_
            refine W_region ?_
            refine L_yld (Y_move rfl) rfl rfl rfl ?_
            refine L_yld (Y_add rfl rfl (by omega) (by omega)) rfl rfl rfl ?_
            refine L_yld (Y_assign rfl) rfl rfl rfl ?_
            refine L_nil ?_
            refine X_then ?_
            refine W_sub _ (.cons (i := 10) rfl (.cons (i := 6) rfl (.cons (i := 12) rfl (.cons (i := 33) rfl (.cons (i := 32) rfl (.cons (i := 8) rfl (.cons (i := 7) rfl (.cons (i := 3) rfl (.cons (i := 2) rfl (.cons (i := 9) rfl (.cons (i := 34) rfl (.nil _)))))))))))) ?_
            refine W_region ?_
            refine L_yld (Y_move rfl) rfl rfl rfl ?_
            refine L_yld (Y_fieldAddr (off := 4) (by kernel_rfl) rfl rfl) rfl rfl rfl ?_
            refine L_yld (Y_ldblk Tryd.underlying28 rfl rfl hk14 rfl) rfl rfl rfl ?_
            refine L_yld (Y_len Tryd.underlying28 rfl (show Bytes _ ((at_nod l ((k : Int)).toNat).dv) ((at_nod l ((k : Int)).toNat).data) from (hl.ext ((((hx1.trans hx7).trans hxL).trans hn11.ext).then' hp13.only (by simp) (Nat.le_trans (Nat.le_trans hx1.size hx7.size) hxL.size))).okat (k := ((k : Int)).toNat) (by omega))) rfl rfl rfl ?_
            refine L_yld (Y_add rfl rfl (by omega) (by omega)) rfl rfl rfl ?_
            refine L_yld (Y_assign rfl) rfl rfl rfl ?_
            refine L_nil ?_
            refine X_block ?_
            refine X_then ?_
            refine W_sub _ (.cons (i := 9) rfl (.cons (i := 10) rfl (.cons (i := 6) rfl (.cons (i := 33) rfl (.cons (i := 32) rfl (.cons (i := 8) rfl (.cons (i := 7) rfl (.cons (i := 3) rfl (.cons (i := 2) rfl (.cons (i := 34) rfl (.nil _))))))))))) ?_
            refine W_region ?_
            refine L_yld (Y_add rfl rfl (by omega) (by omega)) rfl rfl rfl ?_
            refine L_yld (Y_move rfl) rfl rfl rfl ?_
            refine L_nil ?_
            refine X_loop (k + 1) (.cons (i := 33) rfl (.cons (i := 32) rfl (.cons (i := 8) rfl (.cons (i := 7) rfl (.cons (i := 3) rfl (.cons (i := 2) rfl (.cons (i := 6) (lki rfl (by have q := (hs_b (k := k) a' b).1; omega)) (.cons (i := 9) (lki rfl (by have q := (hs_b (k := k) a' b).2.2.2; show (hby l k : Int) + ((at_nod l k).data.length : Int) = _; omega)) (.cons (i := 10) (lki rfl (by have q := (hs_b (k := k) a' b).2.1; omega)) (.cons (i := 34) rfl (.nil _))))))))))) ?_ ?_
            · exact ⟨by omega, ((hxL.trans hn11.ext).then' hp13.only (by simp) hxL.size), MapI.congr (hmL.ext (hn11.ext.then' hp13.only (by simp) (Nat.le_refl _))) (hs_b (k := k) a' b).2.2.1.symm⟩
            · (try dsimp only)
              omega
          · refine W_seq ?_
            refine W_region ?_
            refine L_yld (Y_move rfl) rfl rfl rfl ?_
            refine L_yld (Y_fieldAddr (off := 5) (by kernel_rfl) rfl rfl) rfl rfl rfl ?_
            refine L_yld (Y_ldblk Tryd.underlying3 rfl rfl hk14 rfl) rfl rfl rfl ?_
            refine L_yld (Y_look2I Tryd.underlying54 Tryd.underlying3 (by kernel_rfl) rfl rfl (hmL.ext (hn11.ext.then' hp13.only (by simp) (Nat.le_refl _)))) rfl rfl rfl ?_
            refine L_yld (Y_move rfl) rfl rfl rfl ?_
            refine L_yld (Y_extract (v := .int .i64 (iget (hcm l k) ((at_nod l ((k : Int)).toNat).cls))) rfl rfl) rfl rfl rfl ?_
            refine L_yld (Y_extract (v := .bool (ihas (hcm l k) ((at_nod l ((k : Int)).toNat).cls))) rfl rfl) rfl rfl rfl ?_
            refine L_yld (Y_assign rfl) rfl rfl rfl ?_
            refine L_yld (Y_assign rfl) rfl rfl rfl ?_
            refine L_nil ?_
            refine X_then ?_
            refine W_sub _ (.cons (i := 14) rfl (.cons (i := 6) rfl (.cons (i := 12) rfl (.cons (i := 33) rfl (.cons (i := 32) rfl (.cons (i := 8) rfl (.cons (i := 7) rfl (.cons (i := 3) rfl (.cons (i := 2) rfl (.cons (i := 9) rfl (.cons (i := 10) rfl (.cons (i := 34) rfl (.nil _))))))))))))) ?_
            refine W_seq ?_
            refine W_region ?_
            refine L_yld (Y_move rfl) rfl rfl rfl ?_
            refine L_yld (Y_not rfl) rfl rfl rfl ?_
            refine L_nil ?_
            refine X_then ?_
            refine W_sub _ (.cons (i := 61) rfl (.cons (i := 6) rfl (.cons (i := 12) rfl (.cons (i := 33) rfl (.cons (i := 32) rfl (.cons (i := 8) rfl (.cons (i := 7) rfl (.cons (i := 3) rfl (.cons (i := 2) rfl (.cons (i := 9) rfl (.cons (i := 10) rfl (.cons (i := 34) rfl (.nil _))))))))))))) ?_
            refine W_split rfl (fun d => ?_) (fun d => ?_)
            · have d' : ihas (hcm l k) (at_nod l k).cls = false := by have q : (!ihas (hcm l k) (at_nod l k).cls) = true := d; simpa using q
              refine W_seq ?_
              refine W_region ?_
              refine L_yld (Y_move rfl) rfl rfl rfl ?_
              refine L_yld (Y_fieldAddr (off := 5) (by kernel_rfl) rfl rfl) rfl rfl rfl ?_
              refine L_yld (Y_ldblk Tryd.underlying3 rfl rfl hk14 rfl) rfl rfl rfl ?_
              refine L_dos (D_updI Tryd.underlying54 Tryd.underlying3 rfl rfl rfl (hmL.ext (hn11.ext.then' hp13.only (by simp) (Nat.le_refl _)))) rfl rfl ?_
              rintro h9 ⟨hx15, -, hb16⟩
              refine L_nil ?_
              refine X_then ?_
              refine W_sub _ (.cons (i := 6) rfl (.cons (i := 12) rfl (.cons (i := 33) rfl (.cons (i := 32) rfl (.cons (i := 8) rfl (.cons (i := 7) rfl (.cons (i := 3) rfl (.cons (i := 2) rfl (.cons (i := 9) rfl (.cons (i := 10) rfl (.cons (i := 34) rfl (.nil _)))))))))))) ?_
              refine W_region ?_
              refine L_yld (Y_move rfl) rfl rfl rfl ?_
              refine L_yld (Y_fieldAddr (off := 4) (by kernel_rfl) rfl rfl) rfl rfl rfl ?_
              have hc17 := (hk14.only hx15 (ni_gt (Nat.lt_of_lt_of_le hmL.lt (Nat.le_refl _))))
              refine L_yld (Y_ldblk Tryd.underlying28 rfl rfl hc17 rfl) rfl rfl rfl ?_
              refine L_yld (Y_len Tryd.underlying28 rfl (show Bytes _ ((at_nod l ((k : Int)).toNat).dv) ((at_nod l ((k : Int)).toNat).data) from (hl.ext (((((hx1.trans hx7).trans hxL).trans hn11.ext).then' hp13.only (by simp) (Nat.le_trans (Nat.le_trans hx1.size hx7.size) hxL.size)).then' hx15 (by simp) (Nat.le_trans hx1.size hx7.size))).okat (k := ((k : Int)).toNat) (by omega))) rfl rfl rfl ?_
              refine L_yld (Y_add rfl rfl (by omega) (by omega)) rfl rfl rfl ?_
              refine L_yld (Y_assign rfl) rfl rfl rfl ?_
              refine L_nil ?_
              refine X_block ?_
              refine X_then ?_
              refine W_sub _ (.cons (i := 9) rfl (.cons (i := 6) rfl (.cons (i := 33) rfl (.cons (i := 32) rfl (.cons (i := 8) rfl (.cons (i := 7) rfl (.cons (i := 3) rfl (.cons (i := 2) rfl (.cons (i := 10) rfl (.cons (i := 34) rfl (.nil _))))))))))) ?_
              refine W_region ?_
              refine L_yld (Y_add rfl rfl (by omega) (by omega)) rfl rfl rfl ?_
              refine L_yld (Y_move rfl) rfl rfl rfl ?_
              refine L_nil ?_
              refine X_loop (k + 1) (.cons (i := 33) rfl (.cons (i := 32) rfl (.cons (i := 8) rfl (.cons (i := 7) rfl (.cons (i := 3) rfl (.cons (i := 2) rfl (.cons (i := 6) (lki rfl (by have q := (hs_d (k := k) a' b d').1; omega)) (.cons (i := 9) (lki rfl (by have q := (hs_d (k := k) a' b d').2.2.2; show (hby l k : Int) + ((at_nod l k).data.length : Int) = _; omega)) (.cons (i := 10) (lki rfl (by have q := (hs_d (k := k) a' b d').2.1; omega)) (.cons (i := 34) rfl (.nil _))))))))))) ?_ ?_
              · exact ⟨by omega, (((hxL.trans hn11.ext).then' hp13.only (by simp) hxL.size).then' hx15 (by simp) (Nat.le_refl _)), MapI.congr hb16 (hs_d (k := k) a' b d').2.2.1.symm⟩
              · (try dsimp only)
                omega
            · refine W_skip ?_
              refine X_block ?_
              refine X_then ?_
              refine W_sub _ (.cons (i := 6) rfl (.cons (i := 33) rfl (.cons (i := 32) rfl (.cons (i := 8) rfl (.cons (i := 7) rfl (.cons (i := 3) rfl (.cons (i := 2) rfl (.cons (i := 9) rfl (.cons (i := 10) rfl (.cons (i := 34) rfl (.nil _))))))))))) ?_
              have d' : ihas (hcm l k) (at_nod l k).cls = true := by have q := d; simpa using q
              refine W_region ?_
              refine L_yld (Y_add rfl rfl (by omega) (by omega)) rfl rfl rfl ?_
              refine L_yld (Y_move rfl) rfl rfl rfl ?_
              refine L_nil ?_
              refine X_loop (k + 1) (.cons (i := 33) rfl (.cons (i := 32) rfl (.cons (i := 8) rfl (.cons (i := 7) rfl (.cons (i := 3) rfl (.cons (i := 2) rfl (.cons (i := 6) (lki rfl (by have q := (hs_c (k := k) a' b d').1; omega)) (.cons (i := 9) (lki rfl (by have q := (hs_c (k := k) a' b d').2.2.2; omega)) (.cons (i := 10) (lki rfl (by have q := (hs_c (k := k) a' b d').2.1; omega)) (.cons (i := 34) rfl (.nil _))))))))))) ?_ ?_
              · exact ⟨by omega, ((hxL.trans hn11.ext).then' hp13.only (by simp) hxL.size), MapI.congr (hmL.ext (hn11.ext.then' hp13.only (by simp) (Nat.le_refl _))) (hs_c (k := k) a' b d').2.2.1.symm⟩
              · (try dsimp only)
                omega
      · refine W_exit ?_
        refine X_then_exit ?_
        refine X_then_exit ?_
        refine X_block_hit ?_
        refine X_then ?_
        refine W_sub _ (.cons (i := 8) rfl (.cons (i := 7) rfl (.cons (i := 3) rfl (.cons (i := 2) rfl (.cons (i := 6) rfl (.cons (i := 9) rfl (.cons (i := 10) rfl (.nil _)))))))) ?_
        have hkl : k = l.length := by omega
        have hdl := mem_data_le (B := 100000000000) hq06 (fun x hx => (okA.2.2 x hx).2.2)
        have hll := links_ok hz hq06
        rw [← hkl] at hll
        have hml := mem_len hq06
        refine W_seq ?_
        refine W_region ?_
        refine L_yld (Y_assign rfl) rfl rfl rfl ?_
        refine L_nil ?_
        refine X_then ?_
        refine W_seq ?_
        refine W_seq ?_
        refine W_region ?_
        refine L_yld (Y_move rfl) rfl rfl rfl ?_
        refine L_yld (Y_lenr Tryd.underlying22 rfl (hr05.ext hxL)) rfl rfl rfl ?_
        refine L_yld (Y_move rfl) rfl rfl rfl ?_
        refine L_nil ?_
        refine X_then ?_
        refine W_sub _ (.cons (i := 73) rfl (.cons (i := 72) rfl (.cons (i := 71) rfl (.cons (i := 15) rfl (.cons (i := 8) rfl (.cons (i := 7) rfl (.cons (i := 2) rfl (.cons (i := 6) rfl (.cons (i := 9) rfl (.cons (i := 10) rfl (.nil _))))))))))) ?_
        refine W_block ?_
        refine W_loop (S := Nat) (fun j => [(72, .int .i64 ((L04.length : Int))), (71, s03), (7, .map (some h3.size)), (2, .bool false), (6, .int .i64 ((hfl l k : Int))), (9, .int .i64 ((hby l k : Int))), (10, .int .i64 ((hal l k : Int))), (8, .int .i64 ((mlk L04 j : Int))), (15, .int .i64 ((mst L04 j : Int))), (73, .int .i64 ((j : Int)))]) (fun j h' => j ≤ (L04).length ∧ Ext h6 h') (fun j => (L04).length - j) 0 (.cons (i := 72) rfl (.cons (i := 71) rfl (.cons (i := 7) rfl (.cons (i := 2) rfl (.cons (i := 6) rfl (.cons (i := 9) rfl (.cons (i := 10) rfl (.cons (i := 8) rfl (.cons (i := 15) rfl (.cons (i := 73) rfl (.nil _))))))))))) ?_ ?_
        · exact ⟨Nat.zero_le _, Ext.refl _⟩
        rintro j h10 ⟨hj, hxJ⟩
        show W _ _ _ _ _ [(72, .int .i64 ((L04.length : Int))), (71, s03), (7, .map (some h3.size)), (2, .bool false), (6, .int .i64 ((hfl l k : Int))), (9, .int .i64 ((hby l k : Int))), (10, .int .i64 ((hal l k : Int))), (8, .int .i64 ((mlk L04 j : Int))), (15, .int .i64 ((mst L04 j : Int))), (73, .int .i64 ((j : Int)))] _
        have hsl := mst_le (b := 100000000000) hdl j hj
        have hkl := mlk_le L04 j
        have hjM : ∀ (q : ¬ (j : Int) < ((L04).length : Int)), j = (L04).length := fun q => by omega
        refine W_seq ?_
        refine W_region ?_
        refine L_yld (Y_lss rfl rfl) rfl rfl rfl ?_
        refine L_nil ?_
        refine X_then ?_
        refine W_seq ?_
        refine W_splitd rfl (fun c2 => ?_) (fun c2 => ?_)
        · refine W_skip ?_
          refine X_then ?_
          refine W_sub _ (.cons (i := 72) rfl (.cons (i := 71) rfl (.cons (i := 7) rfl (.cons (i := 2) rfl (.cons (i := 6) rfl (.cons (i := 9) rfl (.cons (i := 10) rfl (.cons (i := 8) rfl (.cons (i := 15) rfl (.cons (i := 73) rfl (.nil _))))))))))) ?_
          refine W_seq ?_
          refine W_block ?_
          refine W_seq ?_
          refine W_region ?_
          refine L_yld (Y_idxr Tryd.underlying22 (show _ = some 6 by kernel_rfl) rfl rfl rfl (hr05.ext (hxL.trans hxJ)) (by omega) (by omega)) rfl rfl rfl ?_
          refine L_yld (Y_ldrA0 (k := ((j : Int)).toNat) (us := [.int .i64 ((at_mem L04 ((j : Int)).toNat).kind), str ((at_mem L04 ((j : Int)).toNat).path), .int .i64 ((at_mem L04 ((j : Int)).toNat).mode), str ((at_mem L04 ((j : Int)).toNat).target), .int .i64 ((at_mem L04 ((j : Int)).toNat).size), ((at_mem L04 ((j : Int)).toNat).dv)]) Tryd.underlying30 rfl (show _ = some 6 by kernel_rfl) rfl rfl (hr05.ext (hxL.trans hxJ)) (by omega) rfl) rfl rfl rfl ?_
          refine L_mks (M_alloc (u := .agg #[.int .i64 0, str [], .int .i64 0, str [], .int .i64 0, .slice none 0 0]) (by kernel_rfl)) rfl rfl rfl ?_
          rintro _ h11 ⟨rfl, hn18⟩
          have hk19 : Blk h11 h10.size [.int .i64 0, str [], .int .i64 0, str [], .int .i64 0, .slice none 0 0] := hn18.blk
          refine L_dos (D_store (us := [.int .i64 ((at_mem L04 ((j : Int)).toNat).kind), str ((at_mem L04 ((j : Int)).toNat).path), .int .i64 ((at_mem L04 ((j : Int)).toNat).mode), str ((at_mem L04 ((j : Int)).toNat).target), .int .i64 ((at_mem L04 ((j : Int)).toNat).size), ((at_mem L04 ((j : Int)).toNat).dv)]) (show _ = some 6 by kernel_rfl) rfl rfl rfl (by intro u_ hu_; simp only [List.mem_cons, List.not_mem_nil, or_false] at hu_; rcases hu_ with rfl | rfl | rfl | rfl | rfl | rfl <;> first | rfl | exact ((show Bytes _ ((at_mem L04 ((j : Int)).toNat).dv) ((at_mem L04 ((j : Int)).toNat).data) from (hr05.ext ((hxL.trans hxJ).trans hn18.ext)).okat (k := ((j : Int)).toNat) (by omega))).cell1) hk19 (by simp)) rfl rfl ?_
          rintro h12 hp20
          have hk21 : Blk h12 h10.size [.int .i64 ((at_mem L04 ((j : Int)).toNat).kind), str ((at_mem L04 ((j : Int)).toNat).path), .int .i64 ((at_mem L04 ((j : Int)).toNat).mode), str ((at_mem L04 ((j : Int)).toNat).target), .int .i64 ((at_mem L04 ((j : Int)).toNat).size), ((at_mem L04 ((j : Int)).toNat).dv)] := hp20.blk
          refine L_nil ?_
          refine X_then ?_
          refine W_sub _ (.cons (i := 17) rfl (.cons (i := 72) rfl (.cons (i := 71) rfl (.cons (i := 7) rfl (.cons (i := 2) rfl (.cons (i := 6) rfl (.cons (i := 9) rfl (.cons (i := 10) rfl (.cons (i := 8) rfl (.cons (i := 15) rfl (.cons (i := 73) rfl (.nil _)))))))))))) ?_
          have hdj := hdl (j : Int).toNat (by omega)
          refine W_seq ?_
          refine W_seq ?_
          refine W_region ?_
          refine L_yld (Y_fieldAddr (off := 0) (by kernel_rfl) rfl rfl) rfl rfl rfl ?_
          refine L_yld (Y_fieldAddr (off := 0) (by kernel_rfl) rfl rfl) rfl rfl rfl ?_
          refine L_yld (Y_ldblk Tryd.underlying3 rfl rfl hk21 rfl) rfl rfl rfl ?_
          refine L_yld (Y_eql rfl rfl) rfl rfl rfl ?_
          refine L_nil ?_
          refine X_then ?_
          refine W_sub _ (.cons (i := 80) rfl (.cons (i := 17) rfl (.cons (i := 72) rfl (.cons (i := 71) rfl (.cons (i := 7) rfl (.cons (i := 2) rfl (.cons (i := 6) rfl (.cons (i := 9) rfl (.cons (i := 10) rfl (.cons (i := 8) rfl (.cons (i := 15) rfl (.cons (i := 73) rfl (.nil _))))))))))))) ?_
          refine W_splitd rfl (fun t3 => ?_) (fun t3 => ?_)
          · refine W_region ?_
            refine L_yld (Y_move rfl) rfl rfl rfl ?_
            refine L_yld (Y_add rfl rfl (by omega) (by omega)) rfl rfl rfl ?_
            refine L_yld (Y_assign rfl) rfl rfl rfl ?_
            refine L_nil ?_
            refine X_then ?_
            refine W_sub _ (.cons (i := 8) rfl (.cons (i := 17) rfl (.cons (i := 72) rfl (.cons (i := 71) rfl (.cons (i := 7) rfl (.cons (i := 2) rfl (.cons (i := 6) rfl (.cons (i := 9) rfl (.cons (i := 10) rfl (.cons (i := 15) rfl (.cons (i := 73) rfl (.nil _)))))))))))) ?_
            refine W_region ?_
            refine L_yld (Y_move rfl) rfl rfl rfl ?_
            refine L_yld (Y_fieldAddr (off := 5) (by kernel_rfl) rfl rfl) rfl rfl rfl ?_
            refine L_yld (Y_ldblk Tryd.underlying28 rfl rfl hk21 rfl) rfl rfl rfl ?_
            refine L_yld (Y_len Tryd.underlying28 rfl (show Bytes _ ((at_mem L04 ((j : Int)).toNat).dv) ((at_mem L04 ((j : Int)).toNat).data) from (hr05.ext (((hxL.trans hxJ).trans hn18.ext).then' hp20.only (by simp) (Nat.le_trans hxL.size hxJ.size))).okat (k := ((j : Int)).toNat) (by omega))) rfl rfl rfl ?_
            refine L_yld (Y_add rfl rfl (by omega) (by omega)) rfl rfl rfl ?_
            refine L_yld (Y_assign rfl) rfl rfl rfl ?_
            refine L_nil ?_
            refine X_block ?_
            refine X_then ?_
            refine W_sub _ (.cons (i := 15) rfl (.cons (i := 8) rfl (.cons (i := 72) rfl (.cons (i := 71) rfl (.cons (i := 7) rfl (.cons (i := 2) rfl (.cons (i := 6) rfl (.cons (i := 9) rfl (.cons (i := 10) rfl (.cons (i := 73) rfl (.nil _))))))))))) ?_
            refine W_region ?_
            refine L_yld (Y_add rfl rfl (by omega) (by omega)) rfl rfl rfl ?_
            refine L_yld (Y_move rfl) rfl rfl rfl ?_
            refine L_nil ?_
            refine X_loop (j + 1) (.cons (i := 72) rfl (.cons (i := 71) rfl (.cons (i := 7) rfl (.cons (i := 2) rfl (.cons (i := 6) rfl (.cons (i := 9) rfl (.cons (i := 10) rfl (.cons (i := 8) (lki rfl (by show (mlk _ j : Int) + 1 = ((mlk _ j + if (at_mem _ j).kind = 3 then 1 else 0 : Nat) : Int); rw [if_pos (show (at_mem _ j).kind = 3 from t3)]; omega)) (.cons (i := 15) (lki rfl (by show (mst _ j : Int) + ((at_mem _ j).data.length : Int) = ((mst _ j + (at_mem _ j).data.length : Nat) : Int); omega)) (.cons (i := 73) rfl (.nil _))))))))))) ?_ ?_
            · exact ⟨by omega, ((hxJ.trans hn18.ext).then' hp20.only (by simp) hxJ.size)⟩
            · (try dsimp only)
              omega
          · refine W_skip ?_
            refine X_then ?_
            refine W_sub _ (.cons (i := 17) rfl (.cons (i := 72) rfl (.cons (i := 71) rfl (.cons (i := 7) rfl (.cons (i := 2) rfl (.cons (i := 6) rfl (.cons (i := 9) rfl (.cons (i := 10) rfl (.cons (i := 8) rfl (.cons (i := 15) rfl (.cons (i := 73) rfl (.nil _)))))))))))) ?_
            refine W_region ?_
            refine L_yld (Y_move rfl) rfl rfl rfl ?_
            refine L_yld (Y_fieldAddr (off := 5) (by kernel_rfl) rfl rfl) rfl rfl rfl ?_
            refine L_yld (Y_ldblk Tryd.underlying28 rfl rfl hk21 rfl) rfl rfl rfl ?_
            refine L_yld (Y_len Tryd.underlying28 rfl (show Bytes _ ((at_mem L04 ((j : Int)).toNat).dv) ((at_mem L04 ((j : Int)).toNat).data) from (hr05.ext (((hxL.trans hxJ).trans hn18.ext).then' hp20.only (by simp) (Nat.le_trans hxL.size hxJ.size))).okat (k := ((j : Int)).toNat) (by omega))) rfl rfl rfl ?_
            refine L_yld (Y_add rfl rfl (by omega) (by omega)) rfl rfl rfl ?_
            refine L_yld (Y_assign rfl) rfl rfl rfl ?_
            refine L_nil ?_
            refine X_block ?_
            refine X_then ?_
            refine W_sub _ (.cons (i := 15) rfl (.cons (i := 72) rfl (.cons (i := 71) rfl (.cons (i := 7) rfl (.cons (i := 2) rfl (.cons (i := 6) rfl (.cons (i := 9) rfl (.cons (i := 10) rfl (.cons (i := 8) rfl (.cons (i := 73) rfl (.nil _))))))))))) ?_
            refine W_region ?_
            refine L_yld (Y_add rfl rfl (by omega) (by omega)) rfl rfl rfl ?_
            refine L_yld (Y_move rfl) rfl rfl rfl ?_
            refine L_nil ?_
            refine X_loop (j + 1) (.cons (i := 72) rfl (.cons (i := 71) rfl (.cons (i := 7) rfl (.cons (i := 2) rfl (.cons (i := 6) rfl (.cons (i := 9) rfl (.cons (i := 10) rfl (.cons (i := 8) (lki rfl (by show (mlk _ j : Int) = ((mlk _ j + if (at_mem _ j).kind = 3 then 1 else 0 : Nat) : Int); rw [if_neg (show ¬ (at_mem _ j).kind = 3 from t3)]; omega)) (.cons (i := 15) (lki rfl (by show (mst _ j : Int) + ((at_mem _ j).data.length : Int) = ((mst _ j + (at_mem _ j).data.length : Nat) : Int); omega)) (.cons (i := 73) rfl (.nil _))))))))))) ?_ ?_
            · exact ⟨by omega, ((hxJ.trans hn18.ext).then' hp20.only (by simp) hxJ.size)⟩
            · (try dsimp only)
              omega
        · refine W_exit ?_
          refine X_then_exit ?_
          refine X_then_exit ?_
          refine X_block_hit ?_
          refine X_then ?_
          refine W_sub _ (.cons (i := 7) rfl (.cons (i := 2) rfl (.cons (i := 6) rfl (.cons (i := 9) rfl (.cons (i := 10) rfl (.cons (i := 8) rfl (.cons (i := 15) rfl (.nil _)))))))) ?_
          have hje := hjM c2
          have hcl := hcm_le l k
          rw [← hje] at hll
          refine W_seq ?_
          refine W_region ?_
          refine L_call (E_call (by kernel_rfl) rfl) (law14_alive _ (hK.ext (((hx1.trans hx7).trans hxL).trans hxJ)) (hE.ext (((hx1.trans hx7).trans hxL).trans hxJ))) rfl rfl rfl ?_
          rintro _ h13 ⟨rfl, hx22⟩
          refine L_yld (Y_move rfl) rfl rfl rfl ?_
          refine L_yld (Y_move rfl) rfl rfl rfl ?_
          refine L_yld (Y_move rfl) rfl rfl rfl ?_
          refine L_yld (Y_move rfl) rfl rfl rfl ?_
          refine L_yld (Y_sub rfl rfl (by omega) (by omega)) rfl rfl rfl ?_
          refine L_yld (Y_move rfl) rfl rfl rfl ?_
          refine L_yld (Y_lenI Tryd.underlying54 rfl (hmL.ext (hxJ.trans hx22))) rfl rfl rfl ?_
          refine L_yld (Y_sub rfl rfl (by omega) (by omega)) rfl rfl rfl ?_
          refine L_yld (Y_eql rfl rfl) rfl rfl rfl ?_
          refine L_yld (Y_pick_t rfl rfl) rfl rfl rfl ?_
          refine L_yld (Y_move rfl) rfl rfl rfl ?_
          refine L_known (d := 100) true rfl (by exact decide_eq_true (by exact hll.1)) ?_
          refine L_yld (Y_move rfl) rfl rfl rfl ?_
          refine L_yld (Y_move rfl) rfl rfl rfl ?_
          refine L_yld (Y_eql rfl rfl) rfl rfl rfl ?_
          refine L_yld (Y_pick_t rfl rfl) rfl rfl rfl ?_
          refine L_yld (Y_assign rfl) rfl rfl rfl ?_
          refine L_nil ?_
          refine X_then ?_
          refine W_sub _ (.cons (i := 2) rfl (.nil _)) ?_
          refine W_ret ?_
          refine X_ret1 rfl rfl ?_
          exact ⟨congrArg Value.bool (decide_eq_true hll.2), ((((hx1.trans hx7).trans hxL).trans hxJ).trans hx22)⟩
end Go.Xp
