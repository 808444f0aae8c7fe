/- Layer 15 (rebuild): the members and the canonical form of what a Builder holds: plain theory. -/
import Derived.Test.YtknimfbagbkjfaaDoorBldt
import Derived.Test.YtknimfbagbkjfaaDoorBlda
import Derived.Test.YtknimfbagbkjfaaDoorCanE
set_option linter.unusedSimpArgs false
set_option linter.unusedVariables false
set_option linter.unusedSectionVars false
namespace Go.Xp

theorem bd_map_er (L : List Nod) : cno (L.map er) = cno L := by
  rw [cno_ccl, cno_ccl, map_er_er]
  congr 1
  funext c; rw [ccl_er]
theorem bd_of_er {L : List Nod} (h : TSet (L.map Go.Xp.er)) : TSet L := by
  refine ⟨fun x hx => h.one (Go.Xp.er x) (List.mem_map_of_mem hx), ?_, fun x hx => ?_, fun x hx y hy => h.agr (Go.Xp.er x) (List.mem_map_of_mem hx) (Go.Xp.er y) (List.mem_map_of_mem hy)⟩
  · have := h.dup; rw [List.pairwise_map] at this; exact this
  · rcases h.par (Go.Xp.er x) (List.mem_map_of_mem hx) with q | ⟨y, hy, q1, q2⟩
    · exact .inl q
    · obtain ⟨z, hz, rfl⟩ := List.mem_map.1 hy
      exact .inr ⟨z, hz, q1, q2⟩
theorem ccl_two {L : List Nod} {f i : Nat} {c : Int} (h : f < i) (hi : i < L.length) (h1 : (at_nod L f).cls = c) (h2 : (at_nod L i).cls = c) : 2 ≤ ccl L c := by
  unfold ccl
  rw [← List.take_append_drop i L, List.countP_append]
  have a : 0 < (L.take i).countP (fun x => decide (x.cls = c)) := List.countP_pos_iff.2 ⟨at_nod L f, by
    rw [nod_eq (show f < L.length by omega)]
    exact List.mem_take_iff_getElem.2 ⟨f, by omega, rfl⟩, by simpa using h1⟩
  have b : 0 < (L.drop i).countP (fun x => decide (x.cls = c)) := List.countP_pos_iff.2 ⟨at_nod L i, by rw [drop_at hi]; simp, by simpa using h2⟩
  omega
theorem Up.asc {N : List Nod} (hu : Up N) : Asc (N.map er) := by
  refine asc_map ?_ (fun _ _ => rfl)
  unfold Asc
  rw [List.pairwise_iff_getElem]
  intro i j hi hj hij
  have := hu i j hij hj
  rw [nod_eq hi, nod_eq hj] at this
  exact nlt_nle this
section
variable {N : List Nod}
/-- The new number of node j's class. -/
def nv (N : List Nod) (x : Nod) : Int := clv (fun c => (ccl N c : Int)) (renM (fun c => (ccl N c : Int)) (N.map er) []) (er x)
theorem cno_up (hu : Up N) : cno N = N.map (fun x => wcl (er x) (nv N x)) := by
  rw [cno_ccl, srt_self hu.asc, renum_map, List.map_map]; rfl
theorem cno_at (hu : Up N) {j : Nat} (hj : j < N.length) : at_nod (cno N) j = wcl (er (at_nod N j)) (nv N (at_nod N j)) := by
  rw [cno_up hu]
  unfold at_nod
  rw [List.getD_eq_getElem?_getD, List.getD_eq_getElem?_getD, List.getElem?_map, List.getElem?_eq_getElem hj]; rfl
theorem nv_same {x y : Nod} (h : x.cls = y.cls) : nv N x = nv N y := by unfold nv clv; show (if (er x).cls ≤ 0 ∨ _ then _ else _) = (if (er y).cls ≤ 0 ∨ _ then _ else _); rw [show (er x).cls = (er y).cls from h]
theorem nv_inj {x y : Nod} (hx : x ∈ N) (h : nv N x = nv N y) (h0 : ¬ nv N y = 0) : x.cls = y.cls ∧ 0 < y.cls := by
  obtain ⟨q1, q2⟩ := clv_inj (x := er x) (y := er y) (List.mem_map_of_mem hx) h h0
  refine ⟨q1, ?_⟩
  have : ¬ (er y).cls ≤ 0 := fun r => q2 (.inl r)
  show 0 < (er y).cls
  omega
theorem nv_pos {x : Nod} (hx : x ∈ N) (h0 : 0 < x.cls) (h2 : 2 ≤ ccl N x.cls) : 0 < nv N x :=
  clv_pos (x := er x) (List.mem_map_of_mem hx) (fun q => by
    rcases q with q | q
    · have : x.cls ≤ 0 := q
      omega
    · have : (ccl N x.cls : Int) < 2 := q
      omega)
theorem lk_cno (hu : Up N) {i : Nat} (hi : i < N.length) : (Lk N i → Lk (cno N) i ∧ nfirst (cno N) (at_nod (cno N) i).cls = nfirst N (at_nod N i).cls) ∧ (Lk (cno N) i → Lk N i) := by
  constructor
  · intro h
    have hf : nfirst N (at_nod N i).cls < i := h.2
    have hc := nfirst_cls (l := N) (c := (at_nod N i).cls) (by omega)
    have hp : 0 < nv N (at_nod N i) := nv_pos (can_mem hi) h.1.2 (ccl_two hf hi hc rfl)
    have hn : nfirst (cno N) (nv N (at_nod N i)) = nfirst N (at_nod N i).cls := by
      refine nfirst_eq ?_ (fun j hj q => ?_) (by rw [cno_len]; omega)
      · rw [cno_at hu (by omega)]; exact nv_same hc
      · rw [cno_at hu (by omega)] at q
        exact nfirst_ne hj (nv_inj (can_mem (by omega)) q (by omega)).1
    unfold Lk
    rw [cno_at hu hi]
    exact ⟨⟨⟨h.1.1, hp⟩, by show nfirst (cno N) (nv N (at_nod N i)) < i; rw [hn]; exact hf⟩, hn⟩
  · intro h
    unfold Lk at h
    rw [cno_at hu hi] at h
    obtain ⟨⟨h1, h2⟩, h3⟩ := h
    have h2' : 0 < nv N (at_nod N i) := h2
    have h3' : nfirst (cno N) (nv N (at_nod N i)) < i := h3
    have hc := nfirst_cls (l := cno N) (c := nv N (at_nod N i)) (by rw [cno_len]; omega)
    rw [cno_at hu (by omega)] at hc
    obtain ⟨q1, q2⟩ := nv_inj (x := at_nod N (nfirst (cno N) (nv N (at_nod N i)))) (y := at_nod N i) (can_mem (by omega)) hc (by omega)
    refine ⟨⟨h1, q2⟩, ?_⟩
    have := nfirst_of (l := N) (i := nfirst (cno N) (nv N (at_nod N i))) (by omega)
    rw [q1] at this
    omega
theorem msp_cno (hu : Up N) {i : Nat} (hi : i < N.length) : msp (cno N) i = msp N i := by
  obtain ⟨l1, l2⟩ := lk_cno hu hi
  by_cases h : Lk N i
  · obtain ⟨h1, h2⟩ := l1 h
    have hf : nfirst N (at_nod N i).cls < i := h.2
    rw [msp_lk h, msp_lk h1, h2, cno_at hu hi, cno_at hu (by omega)]; rfl
  · rw [msp_nl h, msp_nl (fun q => h (l2 q)), cno_at hu hi]; rfl
theorem mem1_cno (hu : Up N) : mem1 (cno N) = mem1 N := by
  unfold mem1
  rw [cno_len]
  exact List.map_congr_left (fun i hi => msp_cno hu (List.mem_range.1 hi))
/-- Nodes of a Builder, given back in canonical form: a valid tree with the added members. -/
theorem Bok.strict (h : Bok N) {n : List Nod} (hn : n.length = N.length ∧ n.map er = cno N) : terr n = 0 ∧ tpos n = N.length ∧ mbs n = mem1 N := by
  have h1 := h.set.cno
  rw [← hn.2] at h1
  have hs := bd_of_er h1
  have := hs.ok.res
  refine ⟨this.2, by rw [this.1, hn.1], ?_⟩
  unfold mbs
  rw [if_pos this.2, ← bd_map_er n, hn.2, cno_idem, mem1_cno h.up]
theorem msp_kind0 {C : List Nod} {i : Nat} : (msp C i).kind = 0 ↔ (at_nod C i).kind = 0 := by
  by_cases h : Lk C i
  · rw [msp_lk h]
    have := h.1.1
    constructor
    · intro q; exact absurd (show (3 : Int) = 0 from q) (by decide)
    · intro q; omega
  · rw [msp_nl h]
    split
    · exact Iff.rfl
    · exact Iff.rfl
theorem odk_dirk {M : List Mem} (he : ∀ j, j < N.length → msp N j = erm (at_mem M j)) : ∀ k, k ≤ N.length → odk M k = dirk N k
  | 0, _ => rfl
  | k + 1, h => by
    have ih := odk_dirk he k (by omega)
    have e := he k (by omega)
    have e1 : (at_mem M k).kind = 0 ↔ (at_nod N k).kind = 0 := by rw [← msp_kind0, e]; exact Iff.rfl
    have e2 : (at_mem M k).path = (at_nod N k).path := by rw [← msp_path, e]; rfl
    unfold odk dirk
    rw [ih, e2]
    by_cases q : (at_nod N k).kind = 0
    · rw [if_pos q, if_pos (e1.2 q)]
    · rw [if_neg q, if_neg (fun r => q (e1.1 r))]
theorem msp_one {C : List Nod} {i : Nat} (h : (msp C i).kind = 1) : ¬ Lk C i ∧ (at_nod C i).kind = 1 := by
  by_cases q : Lk C i
  · rw [msp_lk q] at h; cases h
  · refine ⟨q, ?_⟩
    rw [msp_nl q] at h
    split at h
    · assumption
    · exact h
/-- The next member of a canonical tree is added. -/
theorem Bok.feed {C : List Nod} {M : List Mem} (h : Bok N) (hC : Cano C) (hM : M.map erm = mem1 C) (hi : N.length < C.length) (he : ∀ j, j < N.length → msp N j = msp C j) :
    aerr N (dirk N N.length) (filk N N.length) (at_mem M N.length).kind (at_mem M N.length).path (at_mem M N.length).mode (at_mem M N.length).target (at_mem M N.length).size (at_mem M N.length).data = 0 := by
  have he' : ∀ j, j < N.length → msp N j = erm (at_mem M j) := fun j hj => by rw [he j hj, om_msp hM (by omega)]
  have om := om_f hM hi
  refine aerr_zero.2 ⟨achk_ok (ord_chk hC hM hi) (fun q => ?_) ?_ (fun k3 => ?_), ?_⟩
  · have e := ord_up hC.up hM q hi
    have e2 : (at_nod N (N.length - 1)).path = (at_mem M (N.length - 1)).path := by rw [← msp_path, he' _ (by omega)]; rfl
    rw [e2, e]; decide
  · have := ord_par hC hM hi
    rw [odk_dirk he' _ (Nat.le_refl _)] at this
    exact this
  · have k3' : (msp C N.length).kind = 3 := om.1.symm.trans k3
    obtain ⟨f, f1, f2, f3, f4, f5⟩ := lk_first hC hi ((msp_kind hC hi).1 k3')
    have e := he f f1
    have k1 : (msp N f).kind = 1 := by rw [e, msp_nl f4, if_pos f3]; exact f3
    obtain ⟨n1, n2⟩ := msp_one k1
    have hF : Fil N f := by
      rcases h.lk f1 n2 with q | ⟨j, _, _, _, q, _⟩
      · exact q.1
      · exact absurd q n1
    have ep : (at_nod N f).path = (at_nod C f).path := by rw [← msp_path, e, msp_path]
    have em : (at_nod N f).mode = (at_nod C f).mode := by rw [← msp_mode, e, msp_mode]
    refine ⟨(f : Int), ?_, ?_⟩
    · have := filk_mem h.up hF (Nat.le_refl _) f1
      rw [ep, ← f2] at this
      rw [om.2.2.2.1]; exact this
    · rw [Int.toNat_natCast, em, f5, om.2.2.1, msp_mode]
  · rw [om.2.2.2.2.1, om.2.2.2.2.2]
    by_cases q : Lk C N.length
    · rw [msp_lk q]; rfl
    · rw [msp_nl q]
      split <;> rfl
/-- The state behind the first members of a canonical tree. -/
structure Fed (C N : List Nod) : Prop where
  ok : Bok N
  le : N.length ≤ C.length
  mem : ∀ j, j < N.length → msp N j = msp C j
theorem Fed.nil (C : List Nod) : Fed C [] := ⟨Bok.nil, Nat.zero_le _, fun _ h => by cases h⟩
theorem Fed.err {C : List Nod} {M : List Mem} (h : Fed C N) (hC : Cano C) (hM : M.map erm = mem1 C) {i : Nat} (hi : i < M.length) (e : N.length = i) :
    aerr N (dirk N N.length) (filk N N.length) (at_mem M i).kind (at_mem M i).path (at_mem M i).mode (at_mem M i).target (at_mem M i).size (at_mem M i).data = 0 := by
  subst e; exact h.ok.feed hC hM (by rw [← om_len hM]; exact hi) h.mem
theorem Fed.add {C : List Nod} {M : List Mem} (h : Fed C N) (hC : Cano C) (hM : M.map erm = mem1 C) {i : Nat} (hi : i < M.length) (e : N.length = i) (dv : Value) :
    Fed C (N ++ [anod N (filk N N.length) (at_mem M i).kind (at_mem M i).path (at_mem M i).mode (at_mem M i).target dv (at_mem M i).data]) := by
  subst e
  have hi' : N.length < C.length := by rw [← om_len hM]; exact hi
  obtain ⟨a1, a2, a3, a4⟩ := h.ok.add (dv := dv) (h.ok.feed hC hM hi' h.mem)
  refine ⟨a1, by rw [List.length_append]; exact hi', fun j hj => ?_⟩
  by_cases q : j < N.length
  · rw [msp_app q]; exact h.mem j q
  · have : j = N.length := by rw [List.length_append] at hj; change j < N.length + 1 at hj; omega
    subst this
    rw [a2, ← om_msp hM hi']; rfl
theorem Fed.all {C : List Nod} (h : Fed C N) (hC : Cano C) (e : N.length = C.length) : cno N = C := by
  refine mem1_inj (Cano.of h.ok.set) hC ?_
  rw [mem1_cno h.ok.up]
  unfold mem1
  rw [e]
  exact List.map_congr_left (fun i hi => h.mem i (by rw [e]; exact List.mem_range.1 hi))
end
end Go.Xp

/- Layer 15 (rebuild): Builder.Nodes, and the Builder's calls as the laws want them. -/
set_option linter.unusedSimpArgs false
set_option linter.unusedVariables false
set_option linter.unusedSectionVars false
namespace Go.Xp
open Go.Proofs

set_option maxRecDepth 100000 in
theorem builder_Nodes (h : Heap) (hK : GlbK h) (hE : GlbE h) (b : Nat) (v : Value) (L : List Nod) (hL : Rows nodS h v L) (m1 : Nat) (D : List (List UInt8)) (hD : SetK h m1 D) (m2 : Nat) (F : List (List UInt8 × Int)) (hF : MapF h m2 F) (hb : Blk h b [v, .map (some m1), .map (some m2)]) (hm : L.length ≤ 1000000000) (hs : ∀ x ∈ L, x.path.length ≤ 100000000000 ∧ x.target.length ≤ 100000000000 ∧ x.data.length ≤ 100000000000) : Cal Tryd.prog 14 #[.pointer (some ⟨b, 0, none⟩)] h (fun v h' => ∃ s0 L0, v = s0 ∧ Rows nodS h' s0 L0 ∧ (L0.length = L.length ∧ L0.map er = cno L) ∧ Ext h h') := by
 refine Cal_enter (args := [.pointer (some ⟨b, 0, none⟩)]) Tryd.func14 rfl rfl rfl (fun σ => ?_)
 refine Wr ?_
 refine Av ?_
 refine L_nil (X_then (W_seq (W_seq (W_region ?_))))
 refine Mv ?_
 refine Ly (Y_pnil (ad := some ⟨b, 0, none⟩) (show _ = some (TypeDesc.pointer (Tryd.prog.pointee 23)) by kernel_rfl) rfl rfl) ?_
 refine Nx ?_
 refine W_sub _ (tk3 4 2 0) ?_
 refine W_false rfl ?_
 refine Ws ?_
 refine W_sub _ (tk2 2 0) ?_
 refine Wr ?_
 refine Mv ?_
 refine Ly (Y_nilCheck rfl) ?_
 refine Ly (Y_fieldAddr (off := 0) (by kernel_rfl) rfl rfl) ?_
 refine Ly (Y_ldblk Tryd.underlying32 rfl rfl hb rfl) ?_
 refine L_call (E_call (by kernel_rfl) rfl) (tree_Canon _ v L hL hm hs) rfl rfl rfl ?_
 rintro s01 h1 ⟨_, L02, rfl, hr03, hq04, hx5⟩
 refine Av ?_
 refine Nx ?_
 refine W_sub _ (tk1 2) ?_
 refine W_ret ?_
 refine X_ret1 rfl rfl ?_
 exact ⟨_, _, rfl, hr03, (by assumption), hx5⟩

theorem BSt.ext {h h' : Heap} {base b m1 m2 : Nat} {w : Value} {L : List Nod} {D : List (List UInt8)} {F : List (List UInt8 × Int)} (s : BSt h base b m1 m2 w L D F) (x : Ext h h') : BSt h' base b m1 m2 w L D F :=
  ⟨s.blk.ext x, s.dirs.ext x, s.files.ext x, s.rows.ext x, fun a q => (s.off a q).ext x⟩
/-- A Builder with these nodes stands at b, all of it newer than h0. -/
def BAt (h0 h : Heap) (b : Nat) (N : List Nod) : Prop :=
  ∃ m1 m2 w, BSt h h0.size b m1 m2 w N (dirk N N.length) (filk N N.length) ∧ (h0.size ≤ b ∧ h0.size ≤ m1 ∧ h0.size ≤ m2) ∧ (b ≠ m1 ∧ b ≠ m2 ∧ m1 ≠ m2) ∧ (N = [] → w = .slice none 0 0)
structure BL (h0 h : Heap) (b : Nat) (N : List Nod) : Prop where
  st : BAt h0 h b N
  ok : Bok N
  sz : ∀ x ∈ N, x.path.length ≤ 100000000000 ∧ x.target.length ≤ 100000000000 ∧ x.data.length ≤ 100000000000
theorem BL.ext {h0 h h' : Heap} {b : Nat} {N : List Nod} (B : BL h0 h b N) (x : Ext h h') : BL h0 h' b N := by
  obtain ⟨⟨m1, m2, w, s, q⟩, k, z⟩ := B
  exact ⟨⟨m1, m2, w, s.ext x, q⟩, k, z⟩
def bchk (N : List Nod) (k : Int) (p : List UInt8) (m : Int) (tg : List UInt8) (z : Int) : Int := achk N (dirk N N.length) (filk N N.length) k p m tg z
def berr (N : List Nod) (x : Mem) : Int := aerr N (dirk N N.length) (filk N N.length) x.kind x.path x.mode x.target x.size x.data
def bnod (N : List Nod) (x : Mem) (dv : Value) : Nod := anod N (filk N N.length) x.kind x.path x.mode x.target dv x.data
theorem bnod_sz {N : List Nod} {x : Mem} {dv : Value} (hs : ∀ x ∈ N, x.path.length ≤ 100000000000 ∧ x.target.length ≤ 100000000000 ∧ x.data.length ≤ 100000000000) (hx : x.path.length ≤ 100000000000 ∧ x.target.length ≤ 100000000000 ∧ x.data.length ≤ 100000000000) : ∀ y ∈ N ++ [bnod N x dv], y.path.length ≤ 100000000000 ∧ y.target.length ≤ 100000000000 ∧ y.data.length ≤ 100000000000 := fun y hy => by
  rcases List.mem_append.1 hy with q | q
  · exact hs y q
  · rw [List.mem_singleton.1 q]
    unfold bnod anod
    split
    · exact hx
    · split
      · refine ⟨hx.1, by simp, ?_⟩
        by_cases h9 : ((aget (filk N N.length) x.target).getD 0).toNat < N.length
        · exact (hs _ (can_mem h9)).2.2
        · unfold at_nod
          rw [List.getD_eq_getElem?_getD, List.getElem?_eq_none (by omega)]
          show ([] : List UInt8).length ≤ _
          simp
      · exact hx
section
variable {h0 h : Heap} {b : Nat} {N : List Nod}
theorem blk_ne_map {m : Nat} {cs : List Value} {α : Type} [DecidableEq α] {enc : α → Value} {M : List (α × Value)} (k : Blk h b cs) (k2 : MapK enc h m M) : b ≠ m := fun q => by
  subst q
  obtain ⟨_, _, _, g1, _⟩ := k
  have g2 := MapK.get k2
  rw [g1] at g2; cases g2
theorem set_ne_map {m1 m2 : Nat} (k1 : SetK h m1 [[]]) (k2 : MapF h m2 []) : m1 ≠ m2 := fun q => by
  subst q
  have g1 := MapK.get k1
  have g2 := MapK.get k2
  rw [g1] at g2; cases g2
theorem bl_New (h : Heap) : Cal Tryd.prog 17 #[] h (fun v h' => ∃ b, v = .pointer (some ⟨b, 0, none⟩) ∧ BL h h' b [] ∧ Ext h h') :=
  (rebuild_New h).mono fun v h' ⟨b, m1, m2, e, l, k1, k2, k3, x⟩ => ⟨b, e, ⟨⟨m1, m2, .slice none 0 0, ⟨k1, k2, k3, RowsO.nil _ _ _, fun x hx => absurd hx List.not_mem_nil⟩, l, ⟨blk_ne_map k1 k2, blk_ne_map k1 k3, set_ne_map k2 k3⟩, fun _ => rfl⟩, Bok.nil, fun x hx => absurd hx List.not_mem_nil⟩, x⟩
theorem bl_Check (hK : GlbK h) (hE : GlbE h) (B : BL h0 h b N) (k : Int) (p : List UInt8) (m : Int) (tg : List UInt8) (z : Int) (hm : N.length ≤ 1000000000) (hp : p.length ≤ 100000000000) (ht : tg.length ≤ 100000000000) :
    Cal Tryd.prog 13 #[.pointer (some ⟨b, 0, none⟩), .agg #[.int .i64 k, str p, .int .i64 m, str tg, .int .i64 z]] h (fun v h' => v = .int .i64 (bchk N k p m tg z) ∧ Ext h h') := by
  obtain ⟨⟨m1, m2, w, s, l, ne, hn⟩, ok, sz⟩ := B
  exact builder_Check h hK hE b w N s.rows.rows m1 _ s.dirs m2 _ s.files s.blk k p m tg z hm ok.idx (by omega) (by omega)
theorem bl_Nodes (hK : GlbK h) (hE : GlbE h) (B : BL h0 h b N) (hm : N.length ≤ 1000000000) :
    Cal Tryd.prog 14 #[.pointer (some ⟨b, 0, none⟩)] h (fun v h' => ∃ L, Rows nodS h' v L ∧ (L.length = N.length ∧ L.map er = cno N) ∧ Ext h h') := by
  obtain ⟨⟨m1, m2, w, s, l, ne, hn⟩, ok, sz⟩ := B
  exact (builder_Nodes h hK hE b w N s.rows.rows m1 _ s.dirs m2 _ s.files s.blk hm sz).mono fun v h' ⟨s0, L, e, q⟩ => ⟨L, e ▸ q.1, q.2⟩
theorem bl_AddX {hq : Heap} (hK : GlbK h) (hE : GlbE h) (B : BL h0 hq b N) (xq : Ext hq h) (x0 : Ext h0 h) (x : Mem) (hd : memS.ok h x) (hm : N.length ≤ 1000000000) (hx : x.path.length ≤ 100000000000 ∧ x.target.length ≤ 100000000000 ∧ x.data.length ≤ 100000000000) :
    Cal Tryd.prog 12 #[.pointer (some ⟨b, 0, none⟩), .agg #[.int .i64 x.kind, str x.path, .int .i64 x.mode, str x.target, .int .i64 x.size, x.dv]] h
      (fun v h' => v = .int .i64 (berr N x) ∧ (∃ bs, Only bs h h' ∧ (∀ c ∈ bs, h0.size ≤ c) ∧ (∀ c ∈ bs, c < hq.size) ∧ ∀ (base : Nat) (v : Value) (A : List Mem), RowsO memS h base v A → (A = [] → v = .slice none 0 0) → ∀ c ∈ bs, c ∉ (blockOf v).toList) ∧ ((¬ berr N x = 0 ∧ Ext h h') ∨ (berr N x = 0 ∧ ∃ dv, BL h0 h' b (N ++ [bnod N x dv])))) := by
  obtain ⟨⟨m1, m2, w, s0, l, ne, hn⟩, ok, sz⟩ := B
  have s := s0.ext xq
  refine (builder_Add h hK hE h0 ⟨x0.size⟩ b w N s.rows m1 _ s.dirs m2 _ s.files s.blk x.kind x.path x.mode x.target x.size x.dv x.data hd hm ok.idx (by omega) (by omega) (by omega) ne s.off hn).mono fun v h' ⟨e, q⟩ => ⟨e, ?_⟩
  rcases q with ⟨q1, q2⟩ | ⟨q1, q2, u, dv', q3⟩
  · exact ⟨⟨[], q2, fun c hc => absurd hc List.not_mem_nil, fun c hc => absurd hc List.not_mem_nil, fun _ _ _ _ _ c hc => absurd hc List.not_mem_nil⟩, .inl ⟨q1, q2⟩⟩
  · obtain ⟨a1, a2, a3, a4⟩ := ok.add (dv := dv') q1
    refine ⟨⟨_, q2, fun c hc => ?_, fun c hc => ?_, fun base v A p hv c hc => ?_⟩, .inr ⟨q1, dv', ⟨⟨m1, m2, u, ?_, l, ne, fun e => absurd e (by simp)⟩, a1, bnod_sz sz hx⟩⟩⟩
    · rcases List.mem_append.1 hc with hc | hc
      · simp only [List.mem_cons, List.not_mem_nil, or_false] at hc
        rcases hc with rfl | rfl | rfl
        · exact l.1
        · exact l.2.1
        · exact l.2.2
      · exact (Own.lt s.rows.1 c (by simpa using hc)).1
    · rcases List.mem_append.1 hc with hc | hc
      · simp only [List.mem_cons, List.not_mem_nil, or_false] at hc
        rcases hc with rfl | rfl | rfl
        · exact s0.blk.lt
        · exact MapK.lt s0.dirs
        · exact MapK.lt s0.files
      · exact (Own.lt s0.rows.1 c (by simpa using hc)).2
    · rcases List.mem_append.1 hc with hc | hc
      · simp only [List.mem_cons, List.not_mem_nil, or_false] at hc
        rcases hc with rfl | rfl | rfl
        · exact mrow_box p hv s.blk (row_noint s.rows).2
        · exact mrow_map p hv s.dirs
        · exact mrow_map p hv s.files
      · exact mrow_row p hv s.rows hn hc
    · show BSt h' h0.size b m1 m2 u (N ++ [anod N (filk N N.length) x.kind x.path x.mode x.target dv' x.data]) _ _
      unfold bnod
      rw [a3, a4]; exact q3
theorem bl_Add {hq : Heap} (hK : GlbK h) (hE : GlbE h) (B : BL h0 hq b N) (xq : Ext hq h) (x0 : Ext h0 h) (x : Mem) (hd : memS.ok h x) (hm : N.length ≤ 1000000000) (hx : x.path.length ≤ 100000000000 ∧ x.target.length ≤ 100000000000 ∧ x.data.length ≤ 100000000000) :
    Cal Tryd.prog 12 #[.pointer (some ⟨b, 0, none⟩), .agg #[.int .i64 x.kind, str x.path, .int .i64 x.mode, str x.target, .int .i64 x.size, x.dv]] h
      (fun v h' => v = .int .i64 (berr N x) ∧ (∃ bs, Only bs h h' ∧ (∀ c ∈ bs, h0.size ≤ c) ∧ ∀ c ∈ bs, c < hq.size) ∧ ((¬ berr N x = 0 ∧ Ext h h') ∨ (berr N x = 0 ∧ ∃ dv, BL h0 h' b (N ++ [bnod N x dv])))) :=
  (bl_AddX hK hE B xq x0 x hd hm hx).mono fun v h' ⟨e, ⟨bs, q1, q2, q3, _⟩, q⟩ => ⟨e, ⟨bs, q1, q2, q3⟩, q⟩
/-- A row of members was written. -/
theorem BL.app {h' : Heap} {base : Nat} {v : Value} {A : List Mem} (B : BL h0 h b N) (p : RowsO memS h base v A) (hv : A = [] → v = .slice none 0 0) (y : Only (blockOf v).toList h h') : BL h0 h' b N := by
  obtain ⟨⟨m1, m2, w, s, l, ne, hn⟩, ok, sz⟩ := B
  have hoff : ∀ x ∈ N, Off h' x.dv x.data := fun x hx => (s.off x hx).only y (fun d c hc q => by
    obtain ⟨⟨k, e⟩, -⟩ := mem_cells p hv q
    rw [e] at hc; cases hc)
  refine ⟨⟨m1, m2, w, ⟨s.blk.only y (mrow_box p hv s.blk (row_noint s.rows).2), MapK.only s.dirs y (mrow_map p hv s.dirs), MapK.only s.files y (mrow_map p hv s.files), ⟨Own.only s.rows.1 y (fun c hc hM => mrow_row p hv s.rows hn (by rw [hc]; simp) hM), fun x hx => (hoff x hx).1⟩, hoff⟩, l, ne, hn⟩, ok, sz⟩
end
end Go.Xp
