/- Layer 15 (rebuild): the members and the canonical form of what a Builder holds: plain theory. -/
import Derived.Test.YtknimfbagbkjfaaDoorBldt
set_option linter.unusedSimpArgs false
set_option linter.unusedVariables false
set_option linter.unusedSectionVars false
namespace Go.Xp

theorem bd_map_er (L : List Nod) : cno (L.map er) = cno L := by
  rw [cno_ccl, cno_ccl, map_er_er]
  congr 1
  funext c; rw [ccl_er]
theorem ccl_two {L : List Nod} {f i : Nat} {c : Int} (h : f < i) (hi : i < L.length) (h1 : (at_nod L f).cls = c) (h2 : (at_nod L i).cls = c) : 2 ≤ ccl L c := by
  unfold ccl
  rw [← List.take_append_drop i L, List.countP_append]
  have a : 0 < (L.take i).countP (fun x => decide (x.cls = c)) := List.countP_pos_iff.2 ⟨at_nod L f, by
    rw [nod_eq (show f < L.length by omega)]
    exact List.mem_take_iff_getElem.2 ⟨f, by omega, rfl⟩, by simpa using h1⟩
  have b : 0 < (L.drop i).countP (fun x => decide (x.cls = c)) := List.countP_pos_iff.2 ⟨at_nod L i, by rw [drop_at hi]; simp, by simpa using h2⟩
  omega
theorem Up.asc {N : List Nod} (hu : Up N) : Asc (N.map er) := by
  refine asc_map ?_ (fun _ _ => rfl)
  unfold Asc
  rw [List.pairwise_iff_getElem]
  intro i j hi hj hij
  have := hu i j hij hj
  rw [nod_eq hi, nod_eq hj] at this
  exact nlt_nle this
section
variable {N : List Nod}
/-- The new number of node j's class. -/
def nv (N : List Nod) (x : Nod) : Int := clv (fun c => (ccl N c : Int)) (renM (fun c => (ccl N c : Int)) (N.map er) []) (er x)
theorem cno_up (hu : Up N) : cno N = N.map (fun x => wcl (er x) (nv N x)) := by
  rw [cno_ccl, srt_self hu.asc, renum_map, List.map_map]; rfl
theorem cno_at (hu : Up N) {j : Nat} (hj : j < N.length) : at_nod (cno N) j = wcl (er (at_nod N j)) (nv N (at_nod N j)) := by
  rw [cno_up hu]
  unfold at_nod
  rw [List.getD_eq_getElem?_getD, List.getD_eq_getElem?_getD, List.getElem?_map, List.getElem?_eq_getElem hj]; rfl
theorem nv_same {x y : Nod} (h : x.cls = y.cls) : nv N x = nv N y := by unfold nv clv; show (if (er x).cls ≤ 0 ∨ _ then _ else _) = (if (er y).cls ≤ 0 ∨ _ then _ else _); rw [show (er x).cls = (er y).cls from h]
theorem nv_inj {x y : Nod} (hx : x ∈ N) (h : nv N x = nv N y) (h0 : ¬ nv N y = 0) : x.cls = y.cls ∧ 0 < y.cls := by
  obtain ⟨q1, q2⟩ := clv_inj (x := er x) (y := er y) (List.mem_map_of_mem hx) h h0
  refine ⟨q1, ?_⟩
  have : ¬ (er y).cls ≤ 0 := fun r => q2 (.inl r)
  show 0 < (er y).cls
  omega
theorem nv_pos {x : Nod} (hx : x ∈ N) (h0 : 0 < x.cls) (h2 : 2 ≤ ccl N x.cls) : 0 < nv N x :=
  clv_pos (x := er x) (List.mem_map_of_mem hx) (fun q => by
    rcases q with q | q
    · have : x.cls ≤ 0 := q
      omega
    · have : (ccl N x.cls : Int) < 2 := q
      omega)
theorem lk_cno (hu : Up N) {i : Nat} (hi : i < N.length) : (Lk N i → Lk (cno N) i ∧ nfirst (cno N) (at_nod (cno N) i).cls = nfirst N (at_nod N i).cls) ∧ (Lk (cno N) i → Lk N i) := by
  constructor
  · intro h
    have hf : nfirst N (at_nod N i).cls < i := h.2
    have hc := nfirst_cls (l := N) (c := (at_nod N i).cls) (by omega)
    have hp : 0 < nv N (at_nod N i) := nv_pos (can_mem hi) h.1.2 (ccl_two hf hi hc rfl)
    have hn : nfirst (cno N) (nv N (at_nod N i)) = nfirst N (at_nod N i).cls := by
      refine nfirst_eq ?_ (fun j hj q => ?_) (by rw [cno_len]; omega)
      · rw [cno_at hu (by omega)]; exact nv_same hc
      · rw [cno_at hu (by omega)] at q
        exact nfirst_ne hj (nv_inj (can_mem (by omega)) q (by omega)).1
    unfold Lk
    rw [cno_at hu hi]
    exact ⟨⟨⟨h.1.1, hp⟩, by show nfirst (cno N) (nv N (at_nod N i)) < i; rw [hn]; exact hf⟩, hn⟩
  · intro h
    unfold Lk at h
    rw [cno_at hu hi] at h
    obtain ⟨⟨h1, h2⟩, h3⟩ := h
    have h2' : 0 < nv N (at_nod N i) := h2
    have h3' : nfirst (cno N) (nv N (at_nod N i)) < i := h3
    have hc := nfirst_cls (l := cno N) (c := nv N (at_nod N i)) (by rw [cno_len]; omega)
    rw [cno_at hu (by omega)] at hc
    obtain ⟨q1, q2⟩ := nv_inj (x := at_nod N (nfirst (cno N) (nv N (at_nod N i)))) (y := at_nod N i) (can_mem (by omega)) hc (by omega)
    refine ⟨⟨h1, q2⟩, ?_⟩
    have := nfirst_of (l := N) (i := nfirst (cno N) (nv N (at_nod N i))) (by omega)
    rw [q1] at this
    omega
theorem msp_cno (hu : Up N) {i : Nat} (hi : i < N.length) : msp (cno N) i = msp N i := by
  obtain ⟨l1, l2⟩ := lk_cno hu hi
  by_cases h : Lk N i
  · obtain ⟨h1, h2⟩ := l1 h
    have hf : nfirst N (at_nod N i).cls < i := h.2
    rw [msp_lk h, msp_lk h1, h2, cno_at hu hi, cno_at hu (by omega)]; rfl
  · rw [msp_nl h, msp_nl (fun q => h (l2 q)), cno_at hu hi]; rfl
theorem mem1_cno (hu : Up N) : mem1 (cno N) = mem1 N := by
  unfold mem1
  rw [cno_len]
  exact List.map_congr_left (fun i hi => msp_cno hu (List.mem_range.1 hi))
theorem msp_kind0 {C : List Nod} {i : Nat} : (msp C i).kind = 0 ↔ (at_nod C i).kind = 0 := by
  by_cases h : Lk C i
  · rw [msp_lk h]
    have := h.1.1
    constructor
    · intro q; exact absurd (show (3 : Int) = 0 from q) (by decide)
    · intro q; omega
  · rw [msp_nl h]
    split
    · exact Iff.rfl
    · exact Iff.rfl
theorem odk_dirk {M : List Mem} (he : ∀ j, j < N.length → msp N j = erm (at_mem M j)) : ∀ k, k ≤ N.length → odk M k = dirk N k
  | 0, _ => rfl
  | k + 1, h => by
    have ih := odk_dirk he k (by omega)
    have e := he k (by omega)
    have e1 : (at_mem M k).kind = 0 ↔ (at_nod N k).kind = 0 := by rw [← msp_kind0, e]; exact Iff.rfl
    have e2 : (at_mem M k).path = (at_nod N k).path := by rw [← msp_path, e]; rfl
    unfold odk dirk
    rw [ih, e2]
    by_cases q : (at_nod N k).kind = 0
    · rw [if_pos q, if_pos (e1.2 q)]
    · rw [if_neg q, if_neg (fun r => q (e1.1 r))]
theorem msp_one {C : List Nod} {i : Nat} (h : (msp C i).kind = 1) : ¬ Lk C i ∧ (at_nod C i).kind = 1 := by
  by_cases q : Lk C i
  · rw [msp_lk q] at h; cases h
  · refine ⟨q, ?_⟩
    rw [msp_nl q] at h
    split at h
    · assumption
    · exact h
/-- The next member of a canonical tree is added. -/
theorem Bok.feed {C : List Nod} {M : List Mem} (h : Bok N) (hC : Cano C) (hM : M.map erm = mem1 C) (hi : N.length < C.length) (he : ∀ j, j < N.length → msp N j = msp C j) :
    aerr N (dirk N N.length) (filk N N.length) (at_mem M N.length).kind (at_mem M N.length).path (at_mem M N.length).mode (at_mem M N.length).target (at_mem M N.length).size (at_mem M N.length).data = 0 := by
  have he' : ∀ j, j < N.length → msp N j = erm (at_mem M j) := fun j hj => by rw [he j hj, om_msp hM (by omega)]
  have om := om_f hM hi
  refine aerr_zero.2 ⟨achk_ok (ord_chk hC hM hi) (fun q => ?_) ?_ (fun k3 => ?_), ?_⟩
  · have e := ord_up hC.up hM q hi
    have e2 : (at_nod N (N.length - 1)).path = (at_mem M (N.length - 1)).path := by rw [← msp_path, he' _ (by omega)]; rfl
    rw [e2, e]; decide
  · have := ord_par hC hM hi
    rw [odk_dirk he' _ (Nat.le_refl _)] at this
    exact this
  · have k3' : (msp C N.length).kind = 3 := om.1.symm.trans k3
    obtain ⟨f, f1, f2, f3, f4, f5⟩ := lk_first hC hi ((msp_kind hC hi).1 k3')
    have e := he f f1
    have k1 : (msp N f).kind = 1 := by rw [e, msp_nl f4, if_pos f3]; exact f3
    obtain ⟨n1, n2⟩ := msp_one k1
    have hF : Fil N f := by
      rcases h.lk f1 n2 with q | ⟨j, _, _, _, q, _⟩
      · exact q.1
      · exact absurd q n1
    have ep : (at_nod N f).path = (at_nod C f).path := by rw [← msp_path, e, msp_path]
    have em : (at_nod N f).mode = (at_nod C f).mode := by rw [← msp_mode, e, msp_mode]
    refine ⟨(f : Int), ?_, ?_⟩
    · have := filk_mem h.up hF (Nat.le_refl _) f1
      rw [ep, ← f2] at this
      rw [om.2.2.2.1]; exact this
    · rw [Int.toNat_natCast, em, f5, om.2.2.1, msp_mode]
  · rw [om.2.2.2.2.1, om.2.2.2.2.2]
    by_cases q : Lk C N.length
    · rw [msp_lk q]; rfl
    · rw [msp_nl q]
      split <;> rfl
/-- The state behind the first members of a canonical tree. -/
structure Fed (C N : List Nod) : Prop where
  ok : Bok N
  le : N.length ≤ C.length
  mem : ∀ j, j < N.length → msp N j = msp C j
theorem Fed.nil (C : List Nod) : Fed C [] := ⟨Bok.nil, Nat.zero_le _, fun _ h => by cases h⟩
theorem Fed.err {C : List Nod} {M : List Mem} (h : Fed C N) (hC : Cano C) (hM : M.map erm = mem1 C) {i : Nat} (hi : i < M.length) (e : N.length = i) :
    aerr N (dirk N N.length) (filk N N.length) (at_mem M i).kind (at_mem M i).path (at_mem M i).mode (at_mem M i).target (at_mem M i).size (at_mem M i).data = 0 := by
  subst e; exact h.ok.feed hC hM (by rw [← om_len hM]; exact hi) h.mem
theorem Fed.add {C : List Nod} {M : List Mem} (h : Fed C N) (hC : Cano C) (hM : M.map erm = mem1 C) {i : Nat} (hi : i < M.length) (e : N.length = i) (dv : Value) :
    Fed C (N ++ [anod N (filk N N.length) (at_mem M i).kind (at_mem M i).path (at_mem M i).mode (at_mem M i).target dv (at_mem M i).data]) := by
  subst e
  have hi' : N.length < C.length := by rw [← om_len hM]; exact hi
  obtain ⟨a1, a2, a3, a4⟩ := h.ok.add (dv := dv) (h.ok.feed hC hM hi' h.mem)
  refine ⟨a1, by rw [List.length_append]; exact hi', fun j hj => ?_⟩
  by_cases q : j < N.length
  · rw [msp_app q]; exact h.mem j q
  · have : j = N.length := by rw [List.length_append] at hj; change j < N.length + 1 at hj; omega
    subst this
    rw [a2, ← om_msp hM hi']; rfl
theorem Fed.all {C : List Nod} (h : Fed C N) (hC : Cano C) (e : N.length = C.length) : cno N = C := by
  refine mem1_inj (Cano.of h.ok.set) hC ?_
  rw [mem1_cno h.ok.up]
  unfold mem1
  rw [e]
  exact List.map_congr_left (fun i hi => h.mem i (by rw [e]; exact List.mem_range.1 hi))
end
end Go.Xp
