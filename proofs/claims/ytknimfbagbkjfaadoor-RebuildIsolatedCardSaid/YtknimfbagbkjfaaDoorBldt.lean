/- Layer 15 (rebuild): what a Builder holds after some calls of Add: plain theory. -/
import Derived.Test.YtknimfbagbkjfaaDoorBld
import Derived.Test.YtknimfbagbkjfaaDoorFlaO
set_option linter.unusedSimpArgs false
set_option linter.unusedVariables false
set_option linter.unusedSectionVars false
namespace Go.Xp

theorem tone_ok {x : Nod} (h1 : 0 ≤ x.kind ∧ x.kind ≤ 2) (h2 : nfc x = 0) (h3 : ¬ x.kind = 1 → x.data = []) (h4 : 0 ≤ x.cls) (h5 : ¬ x.kind = 1 → x.cls = 0) : tone x = 0 := by
  unfold tone
  rw [if_neg (by omega), if_neg (fun q => q h2), if_neg (fun q => by rw [h3 q.1] at q; exact absurd q.2 (by simp)), if_neg]
  rintro (q | q)
  · omega
  · exact q.2 (h5 q.1)
theorem fcheck_all {k m z : Int} {p tg : List UInt8} (h : fcheck k p m tg z = 0) : (0 ≤ k ∧ k ≤ 3) ∧ pcheck p = 0 ∧ (0 ≤ m ∧ m ≤ 4095) ∧ ftarget k tg = 0 ∧ fsize k z = 0 := by
  have h9 := h
  unfold fcheck at h
  split at h
  · cases h
  · rename_i a
    split at h
    · rename_i a; exact absurd h a
    · rename_i b
      split at h
      · cases h
      · rename_i c
        split at h
        · rename_i a; exact absurd h a
        · rename_i d
          have c1 : ¬ (m < 0 ∨ 4095 < m) := fun q => c (.inl q)
          exact ⟨by omega, Classical.not_not.1 b, by omega, Classical.not_not.1 d, h⟩
theorem fsize_no {k z : Int} (h : fsize k z = 0) (hk : ¬ k = 1) : z = 0 := by
  unfold fsize at h
  rw [if_neg (fun q => hk q.1)] at h
  split at h
  · cases h
  · rename_i q; exact Classical.not_not.1 (fun r => q ⟨hk, r⟩)
theorem fcheck_file {p : List UInt8} {m z : Int} (hp : pcheck p = 0) (hm : 0 ≤ m ∧ m ≤ 4095) (hz : fsize 1 z = 0) : fcheck 1 p m [] z = 0 := by
  unfold fcheck
  rw [if_neg (by decide), if_neg (fun q => q hp), if_neg (by omega), if_neg (by simp [ftarget]), hz]

/-- Node j is a file with a class of its own. -/
def Fil (N : List Nod) (j : Nat) : Prop := (at_nod N j).kind = 1 ∧ (at_nod N j).cls = (j : Int) + 1
instance (N : List Nod) (j : Nat) : Decidable (Fil N j) := by unfold Fil; infer_instance
def filk (N : List Nod) : Nat → List (List UInt8 × Int)
  | 0 => []
  | i + 1 => if Fil N i then aset (filk N i) (at_nod N i).path (i : Int) else filk N i
theorem filk_some {N : List Nod} {q : List UInt8} {z : Int} : ∀ {k : Nat}, aget (filk N k) q = some z → ∃ j, j < k ∧ z = (j : Int) ∧ Fil N j ∧ (at_nod N j).path = q
  | 0, h => by cases h
  | k + 1, h => by
    unfold filk at h
    split at h
    · rename_i hF
      rw [aget_aset] at h
      split at h
      · rename_i e; cases h; exact ⟨k, by omega, rfl, hF, e.symm⟩
      · obtain ⟨j, h1, h2⟩ := filk_some h; exact ⟨j, by omega, h2⟩
    · obtain ⟨j, h1, h2⟩ := filk_some h; exact ⟨j, by omega, h2⟩
theorem filk_mem {N : List Nod} (hu : Up N) {j : Nat} (hF : Fil N j) : ∀ {k : Nat}, k ≤ N.length → j < k → aget (filk N k) (at_nod N j).path = some (j : Int)
  | k + 1, hk, h => by
    unfold filk
    by_cases e : j = k
    · subst e; rw [if_pos hF, aget_aset, if_pos rfl]
    · have ih := filk_mem hu hF (k := k) (by omega) (by omega)
      split
      · rw [aget_aset, if_neg (up_ne hu (by omega) (by omega) e)]; exact ih
      · exact ih
section
variable {N : List Nod} {x : Nod}
theorem dirk_app : ∀ {k : Nat}, k ≤ N.length → dirk (N ++ [x]) k = dirk N k
  | 0, _ => rfl
  | k + 1, h => by unfold dirk; rw [dirk_app (k := k) (by omega), nod_app (by omega)]
theorem filk_app : ∀ {k : Nat}, k ≤ N.length → filk (N ++ [x]) k = filk N k
  | 0, _ => rfl
  | k + 1, h => by
    have e : Fil (N ++ [x]) k ↔ Fil N k := by unfold Fil; rw [nod_app (by omega)]
    unfold filk
    rw [filk_app (k := k) (by omega), nod_app (by omega)]
    by_cases q : Fil N k
    · rw [if_pos q, if_pos (e.2 q)]
    · rw [if_neg q, if_neg (fun r => q (e.1 r))]
theorem nfirst_app {c : Int} {M : List Nod} : ∀ {N : List Nod}, nfirst N c < N.length → nfirst (N ++ M) c = nfirst N c
  | [], h => by cases h
  | y :: r, h => by
    rw [List.cons_append]
    unfold nfirst at h ⊢
    split
    · rfl
    · rename_i q
      rw [if_neg q] at h
      rw [nfirst_app (by simpa using h)]
theorem msp_app {M : List Nod} {i : Nat} (hi : i < N.length) : msp (N ++ M) i = msp N i := by
  have h1 : nfirst (N ++ M) (at_nod N i).cls = nfirst N (at_nod N i).cls := nfirst_app (Nat.lt_of_le_of_lt (nfirst_of hi) hi)
  unfold msp
  rw [nod_app hi, h1, nod_app (Nat.lt_of_le_of_lt (nfirst_of hi) hi)]
theorem dirk_len (x : Nod) : dirk (N ++ [x]) (N ++ [x]).length = if x.kind = 0 then kins (dirk N N.length) x.path else dirk N N.length := by
  rw [List.length_append]
  show (if (at_nod (N ++ [x]) N.length).kind = 0 then kins (dirk (N ++ [x]) N.length) (at_nod (N ++ [x]) N.length).path else dirk (N ++ [x]) N.length) = _
  rw [dirk_app (Nat.le_refl _), nod_last]
theorem filk_len (x : Nod) : filk (N ++ [x]) (N ++ [x]).length = if x.kind = 1 ∧ x.cls = (N.length : Int) + 1 then aset (filk N N.length) x.path (N.length : Int) else filk N N.length := by
  rw [List.length_append]
  have e : Fil (N ++ [x]) N.length ↔ (x.kind = 1 ∧ x.cls = (N.length : Int) + 1) := by unfold Fil; rw [nod_last]
  show (if Fil (N ++ [x]) N.length then aset (filk (N ++ [x]) N.length) (at_nod (N ++ [x]) N.length).path (N.length : Int) else filk (N ++ [x]) N.length) = _
  rw [filk_app (Nat.le_refl _), nod_last]
  by_cases q : Fil (N ++ [x]) N.length
  · rw [if_pos q, if_pos (e.1 q)]
  · rw [if_neg q, if_neg (fun r => q (e.2 r))]
end
/-- What holds of the nodes of a Builder. -/
structure Bok (N : List Nod) : Prop where
  one : ∀ i, i < N.length → tone (at_nod N i) = 0
  up : Up N
  par : ∀ i, i < N.length → pparent (at_nod N i).path ∈ dirk N i
  cls : ∀ i, i < N.length → (at_nod N i).kind = 1 → (at_nod N i).cls = (i : Int) + 1 ∨ ∃ j, j < i ∧ (at_nod N i).cls = (j : Int) + 1 ∧ Fil N j ∧ (at_nod N j).mode = (at_nod N i).mode ∧ (at_nod N j).data = (at_nod N i).data
theorem Bok.nil : Bok [] := ⟨fun _ h => absurd h (Nat.not_lt_zero _), fun _ _ _ h => absurd h (Nat.not_lt_zero _), fun _ h => absurd h (Nat.not_lt_zero _), fun _ h => absurd h (Nat.not_lt_zero _)⟩
section
variable {N : List Nod}
theorem Bok.idx (h : Bok N) : ∀ q i, aget (filk N N.length) q = some i → 0 ≤ i ∧ i < N.length := fun q i e => by
  obtain ⟨j, h1, h2, -⟩ := filk_some e
  omega
theorem Bok.rep (h : Bok N) {i : Nat} (hi : i < N.length) (hc : 0 < (at_nod N i).cls) : ∃ j, j ≤ i ∧ (at_nod N i).cls = (j : Int) + 1 ∧ Fil N j ∧ (at_nod N i).kind = 1 ∧ (at_nod N j).mode = (at_nod N i).mode ∧ (at_nod N j).data = (at_nod N i).data ∧ nfirst N (at_nod N i).cls = j := by
  have hcl : ∀ j, j < N.length → (at_nod N j).cls ≤ (j : Int) + 1 := fun j hj => by
    rcases tone_cls (h.one j hj) with q | q
    · omega
    · rcases h.cls j hj q.2 with r | ⟨j', r1, r2, -⟩ <;> omega
  have hk : (at_nod N i).kind = 1 := by
    rcases tone_cls (h.one i hi) with q | q
    · omega
    · exact q.2
  have key : ∀ j, j ≤ i → (at_nod N i).cls = (j : Int) + 1 → Fil N j → nfirst N (at_nod N i).cls = j := fun j hj e hF => by
    rw [e]
    exact nfirst_eq hF.2 (fun j' hj' q => by have := hcl j' (by omega); omega) (by omega)
  rcases h.cls i hi hk with q | ⟨j, h1, h2, h3, h4, h5⟩
  · exact ⟨i, Nat.le_refl _, q, ⟨hk, q⟩, hk, rfl, rfl, key i (Nat.le_refl _) q ⟨hk, q⟩⟩
  · exact ⟨j, by omega, h2, h3, hk, h4, h5, key j (by omega) h2 h3⟩
theorem Bok.lk (h : Bok N) {i : Nat} (hi : i < N.length) (hk : (at_nod N i).kind = 1) : (Fil N i ∧ ¬ Lk N i) ∨ ∃ j, j < i ∧ (at_nod N i).cls = (j : Int) + 1 ∧ Fil N j ∧ Lk N i ∧ nfirst N (at_nod N i).cls = j := by
  have hc : 0 < (at_nod N i).cls := by rcases h.cls i hi hk with q | ⟨j, _, q, _⟩ <;> omega
  obtain ⟨j, h1, h2, h3, h4, h5, h6, h7⟩ := h.rep hi hc
  rcases Nat.eq_or_lt_of_le h1 with e | e
  · subst e; exact .inl ⟨h3, fun q => by have := q.2; omega⟩
  · exact .inr ⟨j, e, h2, h3, ⟨⟨h4, hc⟩, by omega⟩, h7⟩
theorem Bok.set (h : Bok N) : TSet N := by
  refine TOk.set ⟨h.one, fun j k hj hk => up_ne h.up (by omega) hk (by omega), fun k hk => ?_, fun j k hj hk e hn => ?_⟩
  · rw [fnd_iff]
    rcases mem_dirk.1 (h.par k hk) with q | ⟨j, q1, q2⟩
    · exact .inl q
    · exact .inr ⟨j, by omega, q2⟩
  · have hp : 0 < (at_nod N k).cls := by
      rcases tone_cls (h.one k hk) with q | q
      · exact absurd q hn
      · exact q.1
    obtain ⟨a, a1, a2, a3, a4, a5, a6, a7⟩ := h.rep hk hp
    obtain ⟨b, b1, b2, b3, b4, b5, b6, b7⟩ := h.rep hj (by omega)
    have : a = b := by omega
    subst this
    exact ⟨b5.symm.trans a5, b6.symm.trans a6⟩
/-- What Add wants. -/
theorem achk_zero {L : List Nod} {D : List (List UInt8)} {F : List (List UInt8 × Int)} {k m z : Int} {p tg : List UInt8} (h : achk L D F k p m tg z = 0) : fcheck k p m tg z = 0 ∧ (0 < L.length → pcmp (at_nod L (L.length - 1)).path p < 0) ∧ pparent p ∈ D ∧ (k = 3 → ∃ i, aget F tg = some i ∧ (at_nod L i.toNat).mode = m) := by
  unfold achk at h
  split at h
  · contradiction
  · rename_i a
    split at h
    · cases h
    · rename_i b
      split at h
      · cases h
      · rename_i c
        split at h
        · cases h
        · rename_i d
          refine ⟨Classical.not_not.1 a, fun q => ?_, Classical.not_not.1 c, fun k3 => ?_⟩
          · have : ¬ 0 ≤ pcmp (at_nod L (L.length - 1)).path p := fun r => b ⟨q, r⟩
            omega
          · have h1 : (aget F tg).isSome = true := Classical.not_not.1 (fun q => d ⟨k3, .inl q⟩)
            obtain ⟨i, hi⟩ := Option.isSome_iff_exists.1 h1
            refine ⟨i, hi, Classical.not_not.1 (fun q => d ⟨k3, .inr (by rw [hi]; exact q)⟩)⟩
theorem achk_ok {L : List Nod} {D : List (List UInt8)} {F : List (List UInt8 × Int)} {k m z : Int} {p tg : List UInt8} (h1 : fcheck k p m tg z = 0) (h2 : 0 < L.length → pcmp (at_nod L (L.length - 1)).path p < 0) (h3 : pparent p ∈ D) (h4 : k = 3 → ∃ i, aget F tg = some i ∧ (at_nod L i.toNat).mode = m) : achk L D F k p m tg z = 0 := by
  unfold achk
  rw [if_neg (fun q => q h1), if_neg (fun q => by have := h2 q.1; omega), if_neg (fun q => q h3), if_neg]
  rintro ⟨k3, q⟩
  obtain ⟨i, hi, hm⟩ := h4 k3
  rw [hi] at q
  rcases q with q | q
  · exact q rfl
  · exact q hm
theorem aerr_zero {L : List Nod} {D : List (List UInt8)} {F : List (List UInt8 × Int)} {k m z : Int} {p tg dat : List UInt8} : aerr L D F k p m tg z dat = 0 ↔ achk L D F k p m tg z = 0 ∧ (dat.length : Int) = z := by
  unfold aerr
  by_cases a : achk L D F k p m tg z = 0
  · rw [if_neg (fun q => q a)]
    by_cases b : (dat.length : Int) = z
    · rw [if_neg (fun q => q b)]; exact ⟨fun _ => ⟨a, b⟩, fun _ => rfl⟩
    · rw [if_pos b]; exact ⟨fun q => (by cases q), fun q => absurd q.2 b⟩
  · rw [if_pos a]; exact ⟨fun q => absurd q a, fun q => absurd q.1 a⟩
/-- One member more. -/
theorem Bok.add (h : Bok N) {k m z : Int} {p tg dat : List UInt8} {dv : Value} (e : aerr N (dirk N N.length) (filk N N.length) k p m tg z dat = 0) :
    Bok (N ++ [anod N (filk N N.length) k p m tg dv dat]) ∧ msp (N ++ [anod N (filk N N.length) k p m tg dv dat]) N.length = ⟨k, p, m, tg, z, .slice none 0 0, dat⟩ ∧
    dirk (N ++ [anod N (filk N N.length) k p m tg dv dat]) (N ++ [anod N (filk N N.length) k p m tg dv dat]).length = adir (dirk N N.length) k p ∧
    filk (N ++ [anod N (filk N N.length) k p m tg dv dat]) (N ++ [anod N (filk N N.length) k p m tg dv dat]).length = afil N (filk N N.length) k p := by
  obtain ⟨e1, e2⟩ := aerr_zero.1 e
  obtain ⟨c1, c2, c3, c4⟩ := achk_zero e1
  obtain ⟨f1, f2, f3, f4, f5⟩ := fcheck_all c1
  generalize hn : anod N (filk N N.length) k p m tg dv dat = n
  have hpath : n.path = p := by rw [← hn]; unfold anod; split; rfl; split <;> rfl
  have hmode : n.mode = m := by rw [← hn]; unfold anod; split; rfl; split <;> rfl
  have hup : Up (N ++ [n]) := fun i j hij hj => by
    rw [List.length_append] at hj
    change j < N.length + 1 at hj
    by_cases hj2 : j < N.length
    · rw [nod_app hj2, nod_app (by omega)]; exact h.up i j hij hj2
    · have : j = N.length := by omega
      subst this
      rw [nod_last, nod_app hij]
      have hl : nlt (at_nod N (N.length - 1)) n := by
        unfold nlt; rw [hpath]; exact c2 (by omega)
      by_cases hi2 : i = N.length - 1
      · rw [hi2]; exact hl
      · exact nlt_trans (h.up i (N.length - 1) (by omega) (by omega)) hl
  have main : (tone n = 0 ∧ (n.kind = 1 → n.cls = (N.length : Int) + 1 ∨ ∃ j, j < N.length ∧ n.cls = (j : Int) + 1 ∧ Fil N j ∧ (at_nod N j).mode = n.mode ∧ (at_nod N j).data = n.data)) ∧
      (msp (N ++ [n]) N.length = ⟨k, p, m, tg, z, .slice none 0 0, dat⟩) ∧ (n.kind = 0 ↔ k = 0) ∧ ((n.kind = 1 ∧ n.cls = (N.length : Int) + 1) ↔ k = 1) := by
    have hcl : ∀ j, j < N.length → (at_nod N j).cls ≤ (j : Int) + 1 := fun j hj => by
      rcases tone_cls (h.one j hj) with q | q
      · omega
      · rcases h.cls j hj q.2 with r | ⟨j', r1, r2, -⟩ <;> omega
    by_cases k1 : k = 1
    · subst k1
      have en : n = ⟨1, p, m, tg, dv, dat, (N.length : Int) + 1⟩ := by rw [← hn]; unfold anod; rw [if_pos rfl]
      have hnf : nfirst (N ++ [n]) ((N.length : Int) + 1) = N.length := nfirst_eq (by rw [nod_last, en]) (fun j hj q => by rw [nod_app hj] at q; have := hcl j hj; omega) (by simp)
      refine ⟨⟨tone_ok (by rw [en]; simp) ?_ (fun q => absurd (by rw [en]) q) (by have := congrArg Nod.cls en; simp only at this; omega) (fun q => absurd (by rw [en]) q), fun _ => .inl (by rw [en])⟩, ?_, by simp [en], by simp [en]⟩
      · rw [en]; unfold nfc nsize; simp only [if_pos]; rw [e2]; exact c1
      · unfold msp
        rw [nod_last, if_neg (fun q => by have := q.2; rw [en] at this; simp only at this; rw [en] at hnf; omega), if_pos (by rw [en]), en, ← e2]
    · by_cases k3 : k = 3
      · subst k3
        obtain ⟨i, hi, hm⟩ := c4 rfl
        obtain ⟨j, j1, j2, j3, j4⟩ := filk_some hi
        have z0 := fsize_no f5 (by decide)
        have d0 : dat = [] := List.eq_nil_of_length_eq_zero (by omega)
        have en : n = ⟨1, p, m, [], (at_nod N j).dv, (at_nod N j).data, (j : Int) + 1⟩ := by
          rw [← hn]; unfold anod; rw [if_neg (by decide), if_pos rfl, hi]
          simp only [Option.getD_some, j2, Int.toNat_natCast]
          rw [j3.2]
        have hmj : (at_nod N j).mode = m := by rw [j2] at hm; exact hm
        have tj := (tone_parts (h.one j j1)).2.1
        have szj : fsize 1 ((at_nod N j).data.length : Int) = 0 := by
          unfold nfc nsize at tj
          rw [j3.1, if_pos rfl] at tj
          exact (fcheck_all tj).2.2.2.2
        have hnf : nfirst (N ++ [n]) ((j : Int) + 1) = j := nfirst_eq (by rw [nod_app j1]; exact j3.2) (fun j' hj' q => by rw [nod_app (by omega)] at q; have := hcl j' (by omega); omega) (by simp; omega)
        refine ⟨⟨tone_ok (by rw [en]; simp) ?_ (fun q => absurd (by rw [en]) q) (by have := congrArg Nod.cls en; simp only at this; omega) (fun q => absurd (by rw [en]) q), fun _ => .inr ⟨j, j1, by rw [en], j3, by rw [en]; exact hmj, by rw [en]⟩⟩, ?_, by rw [en]; simp, by rw [en]; simp; omega⟩
        · rw [en]; unfold nfc nsize; simp only [if_pos]; exact fcheck_file f2 f3 szj
        · have e9 : (at_nod (N ++ [n]) N.length) = n := nod_last _ _
          have ec : n.cls = (j : Int) + 1 := by rw [en]
          have hlk : Lk (N ++ [n]) N.length := by
            unfold Lk; rw [e9, ec, hnf]; exact ⟨⟨by rw [en], by omega⟩, j1⟩
          rw [msp_lk hlk, e9, ec, hnf, nod_app j1, j4, hpath, hmode, z0, d0]
      · have z0 := fsize_no f5 k1
        have d0 : dat = [] := List.eq_nil_of_length_eq_zero (by omega)
        have en : n = ⟨k, p, m, tg, dv, dat, 0⟩ := by rw [← hn]; unfold anod; rw [if_neg k1, if_neg k3]
        refine ⟨⟨tone_ok (by rw [en]; simp only; omega) ?_ (fun _ => by rw [en]; exact d0) (by rw [en]; exact Int.le_refl _) (fun _ => by rw [en]), fun q => absurd (by rw [en] at q; exact q) k1⟩, ?_, by rw [en], by rw [en]; simp only; omega⟩
        · rw [en]; unfold nfc nsize; simp only [if_neg k1]; rw [z0] at c1; exact c1
        · unfold msp
          rw [nod_last, if_neg (fun q => by have := q.1.1; rw [en] at this; exact k1 this), if_neg (by rw [en]; exact k1), en, z0, d0]
  obtain ⟨⟨m1, m2⟩, m3, m4, m5⟩ := main
  refine ⟨⟨fun i hi => ?_, hup, fun i hi => ?_, fun i hi hk => ?_⟩, m3, ?_, ?_⟩
  · by_cases q : i < N.length
    · rw [nod_app q]; exact h.one i q
    · have : i = N.length := by simp at hi; omega
      rw [this, nod_last]; exact m1
  · by_cases q : i < N.length
    · rw [nod_app q, dirk_app (by omega)]; exact h.par i q
    · have : i = N.length := by simp at hi; omega
      rw [this, nod_last, dirk_app (Nat.le_refl _), hpath]; exact c3
  · by_cases q : i < N.length
    · rw [nod_app q] at hk ⊢
      refine (h.cls i q hk).imp id (fun ⟨j, r1, r2, r3, r4⟩ => ⟨j, r1, r2, ?_, ?_⟩)
      · unfold Fil; rw [nod_app (by omega)]; exact r3
      · rw [nod_app (by omega)]; exact r4
    · have : i = N.length := by simp at hi; omega
      rw [this, nod_last] at hk ⊢
      refine (m2 hk).imp id (fun ⟨j, r1, r2, r3, r4⟩ => ⟨j, r1, r2, ?_, ?_⟩)
      · unfold Fil; rw [nod_app (by omega)]; exact r3
      · rw [nod_app (by omega)]; exact r4
  · rw [dirk_len, hpath]
    unfold adir
    by_cases q : k = 0
    · rw [if_pos q, if_pos (m4.2 q)]
    · rw [if_neg q, if_neg (fun r => q (m4.1 r))]
  · rw [filk_len, hpath]
    unfold afil
    by_cases q : k = 1
    · rw [if_pos q, if_pos (m5.2 q)]
    · rw [if_neg q, if_neg (fun r => q (m5.1 r))]
end
end Go.Xp
