/- Layer 15 (rebuild): the Builder and the reference's Builder side by side: theory and calls. -/
import Derived.Test.YtknimfbagbkjfaaDoorBldu
import Derived.Test.YtknimfbagbkjfaaDoorBldj
set_option linter.unusedSimpArgs false
set_option linter.unusedVariables false
set_option linter.unusedSectionVars false
namespace Go.Xp
open Go.Proofs

/-- The nodes and the members of the same calls. -/
structure Sim (N : List Nod) (M : List Mem) : Prop where
  ok : Bok N
  mem : mem1 N = M.map erm
theorem Sim.nil : Sim [] [] := ⟨Bok.nil, rfl⟩
section
variable {N : List Nod} {M : List Mem}
theorem Sim.len (h : Sim N M) : M.length = N.length := om_len h.mem.symm
theorem Sim.at (h : Sim N M) {i : Nat} (hi : i < N.length) : msp N i = erm (at_mem M i) := (om_msp h.mem.symm hi).symm
theorem Sim.path (h : Sim N M) {i : Nat} (hi : i < N.length) : (at_mem M i).path = (at_nod N i).path := by rw [← msp_path, h.at hi]; rfl
theorem Sim.mode (h : Sim N M) {i : Nat} (hi : i < N.length) : (at_mem M i).mode = (at_nod N i).mode := by rw [← msp_mode, h.at hi]; rfl
theorem Sim.kind (h : Sim N M) {i : Nat} (hi : i < N.length) : (at_mem M i).kind = (msp N i).kind := by rw [h.at hi]; rfl
theorem Sim.dir (h : Sim N M) {i : Nat} (hi : i < N.length) : (at_mem M i).kind = 0 ↔ (at_nod N i).kind = 0 := by rw [h.kind hi, msp_kind0]
theorem Bok.nlk (h : Bok N) {i : Nat} (hi : i < N.length) (hF : Fil N i) : ¬ Lk N i := by
  rcases h.lk hi hF.1 with q | ⟨j, h1, h2, _⟩
  · exact q.2
  · have := hF.2; omega
theorem Sim.file (h : Sim N M) {i : Nat} (hi : i < N.length) : (at_mem M i).kind = 1 ↔ Fil N i := by
  rw [h.kind hi]
  constructor
  · intro q
    obtain ⟨n1, n2⟩ := msp_one q
    rcases h.ok.lk hi n2 with r | ⟨j, _, _, _, r, _⟩
    · exact r.1
    · exact absurd r n1
  · intro q
    rw [msp_nl (h.ok.nlk hi q), if_pos q.1]; exact q.1
theorem Sim.uniq (h : Sim N M) {i j : Nat} (hi : i < N.length) (hj : j < N.length) (e : (at_mem M i).path = (at_mem M j).path) : i = j := by
  rw [h.path hi, h.path hj] at e
  by_cases q : i = j
  · exact q
  · exact absurd e (up_ne h.ok.up hi hj q)
theorem Sim.find (h : Sim N M) {i : Nat} {k : Int} {q : List UInt8} (hi : i < N.length) (h1 : (at_mem M i).kind = k) (h2 : (at_mem M i).path = q) : mfind M k q = i :=
  mfind_y (by rw [h.len]; exact hi) (fun j hj e => by have := h.uniq (i := j) (j := i) (by omega) hi (e.2.trans h2.symm); omega) ⟨h1, h2⟩
theorem mfind_cases (M : List Mem) (k : Int) (q : List UInt8) : (∃ i, i < M.length ∧ mfind M k q = i ∧ (at_mem M i).kind = k ∧ (at_mem M i).path = q) ∨ (mfind M k q = -1 ∧ ∀ j, j < M.length → ¬ ((at_mem M j).kind = k ∧ (at_mem M j).path = q)) := by
  obtain ⟨h1, h2, h3⟩ := @mff_spec M k q
  unfold mfind
  by_cases h : mff M k q < M.length
  · rw [if_pos h]; exact .inl ⟨_, h, rfl, h3 h⟩
  · rw [if_neg h]; exact .inr ⟨rfl, fun j hj => h2 j (by omega)⟩
theorem Sim.chk (h : Sim N M) (k : Int) (p : List UInt8) (m : Int) (tg : List UInt8) (z : Int) : achk N (dirk N N.length) (filk N N.length) k p m tg z = rchk M k p m tg z := by
  have hl := h.len
  have c2 : (0 < N.length ∧ 0 ≤ pcmp (at_nod N (N.length - 1)).path p) ↔ (0 < M.length ∧ 0 ≤ pcmp (at_mem M (M.length - 1)).path p) := by
    rw [hl]
    exact and_congr_right (fun q => by rw [h.path (i := N.length - 1) (by omega)])
  have c3 : (¬ pparent p ∈ dirk N N.length) ↔ (¬ pparent p = [] ∧ mfind M 0 (pparent p) < 0) := by
    rw [mem_dirk]
    rcases mfind_cases M 0 (pparent p) with ⟨i, i1, i2, i3, i4⟩ | ⟨i1, i2⟩
    · rw [hl] at i1
      constructor
      · intro q; exact absurd (.inr ⟨i, i1, (h.dir i1).1 i3, by rw [← h.path i1]; exact i4⟩) q
      · rintro ⟨-, q⟩; omega
    · constructor
      · intro q; exact ⟨fun r => q (.inl r), by omega⟩
      · rintro ⟨q, -⟩ (r | ⟨j, j1, j2, j3⟩)
        · exact q r
        · exact i2 j (by omega) ⟨(h.dir j1).2 j2, by rw [h.path j1]; exact j3⟩
  have c4 : (k = 3 ∧ (¬ (aget (filk N N.length) tg).isSome = true ∨ ¬ (at_nod N ((aget (filk N N.length) tg).getD 0).toNat).mode = m)) ↔ (k = 3 ∧ (mfind M 1 tg < 0 ∨ ¬ (at_mem M (mfind M 1 tg).toNat).mode = m)) := by
    refine and_congr_right (fun _ => ?_)
    rcases mfind_cases M 1 tg with ⟨i, i1, i2, i3, i4⟩ | ⟨i1, i2⟩
    · rw [hl] at i1
      have hF := (h.file i1).1 i3
      have e := filk_mem h.ok.up hF (Nat.le_refl _) i1
      rw [← h.path i1, i4] at e
      rw [e, i2]
      simp only [Option.isSome_some, Option.getD_some, Int.toNat_natCast, not_true_eq_false, false_or]
      rw [h.mode i1]
      constructor
      · intro q; exact .inr q
      · rintro (q | q)
        · omega
        · exact q
    · have e : aget (filk N N.length) tg = none := by
        cases hx : aget (filk N N.length) tg with
        | none => rfl
        | some z9 =>
          obtain ⟨j, j1, j2, j3, j4⟩ := filk_some hx
          exact absurd ⟨(h.file j1).2 j3, by rw [h.path j1]; exact j4⟩ (i2 j (by omega))
      rw [e, i1]
      simp
  unfold achk rchk
  by_cases f : fcheck k p m tg z = 0
  · have nf : ¬ ¬ fcheck k p m tg z = 0 := fun q => q f
    rw [if_neg nf, if_neg nf]
    by_cases g : 0 < N.length ∧ 0 ≤ pcmp (at_nod N (N.length - 1)).path p
    · rw [if_pos g, if_pos (c2.1 g)]
    · rw [if_neg g, if_neg (fun q => g (c2.2 q))]
      by_cases d : ¬ pparent p ∈ dirk N N.length
      · rw [if_pos d, if_pos (c3.1 d)]
      · rw [if_neg d, if_neg (fun q => d (c3.2 q))]
        by_cases o : k = 3 ∧ (¬ (aget (filk N N.length) tg).isSome = true ∨ ¬ (at_nod N ((aget (filk N N.length) tg).getD 0).toNat).mode = m)
        · rw [if_pos o, if_pos (c4.1 o)]
        · rw [if_neg o, if_neg (fun q => o (c4.2 q))]
  · rw [if_pos f, if_pos f]
theorem rnods_map (M : List Mem) : ∀ k, rnods M k = (List.range k).map (rnod M)
  | 0 => rfl
  | k + 1 => by unfold rnods; rw [rnods_map M k, List.range_succ, List.map_append]; rfl
theorem Sim.fnd (h : Sim N M) {i : Nat} (hi : i < N.length) (k3 : (at_mem M i).kind = 3) : ∃ j, j < i ∧ Fil N j ∧ Lk N i ∧ (at_nod N i).cls = (j : Int) + 1 ∧ nfirst N (at_nod N i).cls = j ∧ mfind M 1 (at_mem M i).target = j := by
  have hk : (msp N i).kind = 3 := by rw [← h.kind hi]; exact k3
  have hlk : Lk N i := by
    by_cases q : Lk N i
    · exact q
    · have t := (tone_parts (h.ok.one i hi)).1
      rw [msp_nl q] at hk
      split at hk
      · rename_i r; simp only at hk; omega
      · simp only at hk; omega
  rcases h.ok.lk hi hlk.1.1 with q | ⟨j, j1, j2, j3, j4, j5⟩
  · exact absurd hlk q.2
  · refine ⟨j, j1, j3, hlk, j2, j5, ?_⟩
    have et : (at_mem M i).target = (at_nod N j).path := by
      have := congrArg Mem.target (h.at hi)
      rw [msp_lk hlk, j5] at this
      exact this.symm
    rw [et, ← h.path (i := j) (by omega)]
    exact h.find (by omega) ((h.file (by omega)).2 j3) rfl
theorem Sim.hk (h : Sim N M) : ∀ i, i < M.length → (at_mem M i).kind = 3 → 0 ≤ mfind M 1 (at_mem M i).target := fun i hi k3 => by
  obtain ⟨j, _, _, _, _, _, e⟩ := h.fnd (by rw [← h.len]; exact hi) k3
  omega
theorem Sim.dat (h : Sim N M) {i : Nat} (hi : i < N.length) (hn : ¬ Lk N i) : (at_mem M i).kind = (at_nod N i).kind ∧ (at_mem M i).target = (at_nod N i).target ∧ (at_mem M i).data = (at_nod N i).data := by
  have t := tone_parts (h.ok.one i hi)
  have e := h.at hi
  rw [msp_nl hn] at e
  by_cases q : (at_nod N i).kind = 1
  · rw [if_pos q] at e
    exact ⟨(congrArg Mem.kind e).symm, (congrArg Mem.target e).symm, (congrArg Mem.data e).symm⟩
  · rw [if_neg q] at e
    exact ⟨(congrArg Mem.kind e).symm, (congrArg Mem.target e).symm, (congrArg Mem.data e).symm.trans (t.2.2.1 q).symm⟩
theorem Sim.nod (h : Sim N M) {i : Nat} (hi : i < N.length) : er (rnod M i) = er (at_nod N i) := by
  have t := tone_parts (h.ok.one i hi)
  by_cases k3 : (at_mem M i).kind = 3
  · obtain ⟨j, j1, j2, j3, j4, j5, j6⟩ := h.fnd hi k3
    have hj : j < N.length := by omega
    have r := h.ok.rep hi (by omega)
    obtain ⟨a, a1, a2, a3, a4, a5, a6, a7⟩ := r
    have : a = j := by omega
    subst this
    have d := (h.dat hj (h.ok.nlk hj j2)).2.2
    unfold rnod
    rw [if_pos k3, j6]
    unfold er
    simp only [Int.toNat_natCast]
    rw [h.path hi, h.mode hi, d, a6, j4, j3.1.1, file_target (h.ok.one i hi) j3.1.1]
  · have hn : ¬ Lk N i := fun q => k3 (by rw [h.kind hi, msp_lk q])
    obtain ⟨d1, d2, d3⟩ := h.dat hi hn
    unfold rnod
    rw [if_neg k3]
    unfold er
    simp only
    rw [h.path hi, h.mode hi, d1, d2, d3]
    congr 1
    by_cases q : (at_nod N i).kind = 1
    · rw [if_pos q]
      rcases h.ok.lk hi q with r | ⟨_, _, _, _, r, _⟩
      · exact r.1.2.symm
      · exact absurd r hn
    · rw [if_neg q, t.2.2.2.2 q]
theorem Sim.nodes (h : Sim N M) : cno (rnods M M.length) = cno N := by
  rw [← bd_map_er, ← bd_map_er N, rnods_map]
  congr 1
  apply List.ext_getElem
  · simp [h.len]
  · intro i q1 q2
    simp only [List.length_map, List.length_range] at q1 q2
    simp only [List.getElem_map, List.getElem_range]
    rw [h.nod q2, nod_eq q2]
def rchkm (M : List Mem) (x : Mem) : Int := rchk M x.kind x.path x.mode x.target x.size
def rerqm (M : List Mem) (x : Mem) : Int := rerq M x.kind x.path x.mode x.target x.size x.data
theorem Sim.chkm (h : Sim N M) (x : Mem) : bchkm N x = rchkm M x := h.chk _ _ _ _ _
theorem Sim.errm (h : Sim N M) (x : Mem) : berr N x = rerqm M x := by
  unfold berr rerqm aerr rerq
  rw [h.chk]
def wdv (x : Mem) (dv : Value) : Mem := ⟨x.kind, x.path, x.mode, x.target, x.size, dv, x.data⟩
theorem Sim.add (h : Sim N M) {x : Mem} (e : berr N x = 0) (dv dv' : Value) : Sim (N ++ [bnod N x dv]) (M ++ [wdv x dv']) :=
  ⟨(h.ok.add (dv := dv) e).1, by rw [mem1_add h.ok e, h.mem, List.map_append]; rfl⟩
end

/-- The reference's Builder stands at c. -/
def RAt (h : Heap) (c : Nat) (M : List Mem) : Prop :=
  ∃ u base, Blk h c [u] ∧ RowsO memS h base u M ∧ (M = [] → u = .slice none 0 0) ∧ ∀ x ∈ M, Off h x.dv x.data
theorem RAt.ext {h h' : Heap} {c : Nat} {M : List Mem} (R : RAt h c M) (x : Ext h h') : RAt h' c M := by
  obtain ⟨u, base, a, b, d, e⟩ := R
  exact ⟨u, base, a.ext x, b.ext x, d, fun a q => (e a q).ext x⟩
section
variable {h0 h hq : Heap} {b c : Nat} {N : List Nod} {M : List Mem}
theorem bl_AddR (hK : GlbK h) (hE : GlbE h) (B : BL h0 hq b N) (xq : Ext hq h) (x0 : Ext h0 h) (x : Mem) (hd : memS.ok h x) (hm : N.length ≤ 1000000000) (hx : x.path.length ≤ 100000000000 ∧ x.target.length ≤ 100000000000 ∧ x.data.length ≤ 100000000000) (e0 : berr N x = 0) :
    Cal Tryd.prog 12 #[.pointer (some ⟨b, 0, none⟩), .agg #[.int .i64 x.kind, str x.path, .int .i64 x.mode, str x.target, .int .i64 x.size, x.dv]] h
      (fun v h' => v = .int .i64 (berr N x) ∧ (∃ bs, Only bs h h' ∧ (∀ c ∈ bs, h0.size ≤ c) ∧ ∀ c ∈ bs, c < hq.size) ∧ (∃ dv, BL h0 h' b (N ++ [bnod N x dv])) ∧ ∀ c M, RAt h c M → RAt h' c M) :=
  (bl_AddY hK hE B xq x0 x hd hm hx).mono fun v h' ⟨e, ⟨bs, q1, q2, q3, q4, q5, q6⟩, q⟩ => ⟨e, ⟨bs, q1, q2, q3⟩, (q.resolve_left (fun r => r.1 e0)).2, fun c M ⟨u, base, a, d, f, g⟩ =>
    ⟨u, base, a.only q1 (q5 c u a (rows_noint d.rows).2), rowsM_over d q1 (fun c hc => q4 base u M d f c hc) (fun x hx => ((g x hx).only q1 q6).1), f, fun x hx => (g x hx).only q1 q6⟩⟩
theorem bl_AddN (hK : GlbK h) (hE : GlbE h) (B : BL h0 h b N) (x0 : Ext h0 h) (x : Mem) (hd : memS.ok h x) (hm : N.length ≤ 1000000000) (hx : x.path.length ≤ 100000000000 ∧ x.target.length ≤ 100000000000 ∧ x.data.length ≤ 100000000000) (e0 : ¬ berr N x = 0) :
    Cal Tryd.prog 12 #[.pointer (some ⟨b, 0, none⟩), .agg #[.int .i64 x.kind, str x.path, .int .i64 x.mode, str x.target, .int .i64 x.size, x.dv]] h
      (fun v h' => v = .int .i64 (berr N x) ∧ Ext h h') :=
  (bl_AddY hK hE B (Ext.refl _) x0 x hd hm hx).mono fun v h' ⟨e, _, q⟩ => ⟨e, (q.resolve_right (fun r => e0 r.1)).2⟩
theorem rl_Check (hK : GlbK h) (hE : GlbE h) (R : RAt h c M) (x : Mem) (hm : M.length ≤ 1000000000) (hs : ∀ x ∈ M, x.path.length ≤ 100000000000 ∧ x.target.length ≤ 100000000000 ∧ x.data.length ≤ 100000000000) (hx : x.path.length ≤ 100000000000 ∧ x.target.length ≤ 100000000000 ∧ x.data.length ≤ 100000000000) :
    Cal Tryd.prog 18 #[.pointer (some ⟨c, 0, none⟩), .agg #[.int .i64 x.kind, str x.path, .int .i64 x.mode, str x.target, .int .i64 x.size]] h (fun v h' => v = .int .i64 (rchkm M x) ∧ Ext h h') := by
  obtain ⟨u, base, a, d, f, g⟩ := R
  exact ref15_Check h hK hE c u M d.rows a x.kind x.path x.mode x.target x.size hm (fun x hx => (hs x hx).1) (by omega) (by omega)
theorem rl_Nodes (hK : GlbK h) (hE : GlbE h) (R : RAt h c M) (hm : M.length ≤ 1000000000) (hs : ∀ x ∈ M, x.path.length ≤ 100000000000 ∧ x.target.length ≤ 100000000000 ∧ x.data.length ≤ 100000000000) (S : Sim N M) :
    Cal Tryd.prog 21 #[.pointer (some ⟨c, 0, none⟩)] h (fun v h' => CanR h' v (rnods M M.length) ∧ Ext h h') := by
  obtain ⟨u, base, a, d, f, g⟩ := R
  exact (ref15_Nodes h hK hE c u M d.rows a hm hs S.hk).mono fun v h' ⟨s0, L, e, q1, q2, q3⟩ => ⟨⟨L, e ▸ q1, by rw [rnods_len]; exact q2.1, q2.2⟩, q3⟩
/-- Add of the reference, the member accepted; hq: an older heap, on which the box stood already. -/
theorem rl_Add (hK : GlbK h) (hE : GlbE h) (R : RAt h c M) (hcq : c < hq.size) (hc : h0.size ≤ c) (x : Mem) (hd : memS.ok h x) (hm : M.length ≤ 1000000000) (hs : ∀ x ∈ M, x.path.length ≤ 100000000000 ∧ x.target.length ≤ 100000000000 ∧ x.data.length ≤ 100000000000) (hx : x.path.length ≤ 100000000000 ∧ x.target.length ≤ 100000000000 ∧ x.data.length ≤ 100000000000) (e0 : rerqm M x = 0) :
    Cal Tryd.prog 19 #[.pointer (some ⟨c, 0, none⟩), .agg #[.int .i64 x.kind, str x.path, .int .i64 x.mode, str x.target, .int .i64 x.size, x.dv]] h
      (fun v h' => v = .int .i64 (rerqm M x) ∧ (∃ bs, Only bs h h' ∧ (∀ c ∈ bs, h0.size ≤ c) ∧ ∀ c ∈ bs, c < hq.size) ∧ (∃ dv, RAt h' c (M ++ [wdv x dv])) ∧ ∀ h0 b N, BL h0 h b N → BL h0 h' b N) := by
  obtain ⟨u, base, a, d, f, g⟩ := R
  refine (ref15_Add h hK hE c u M d.rows a x.kind x.path x.mode x.target x.size x.dv x.data hd hm (fun x hx => (hs x hx).1) (by omega) (by omega) (by omega) g).mono fun v h' ⟨e, q⟩ => ⟨e, ?_⟩
  obtain ⟨q1, q2, u', dv, q3, q4, q5⟩ := q.resolve_left (fun r => r.1 e0)
  have hu := rows_noint d.rows
  refine ⟨⟨[c], q2, fun c' hc' => by rw [List.mem_singleton.1 hc']; exact hc, fun c' hc' => by rw [List.mem_singleton.1 hc']; exact hcq⟩, ⟨dv, u', h.size, q3, q4, fun q => absurd q (by simp), fun y hy => ?_⟩, fun h0 b N B => B.obox a hu q2⟩
  rcases List.mem_append.1 hy with q | q
  · exact (g y q).box a hu.1 q2
  · rw [List.mem_singleton.1 q]; exact q5
theorem rl_AddN (hK : GlbK h) (hE : GlbE h) (R : RAt h c M) (x : Mem) (hd : memS.ok h x) (hm : M.length ≤ 1000000000) (hs : ∀ x ∈ M, x.path.length ≤ 100000000000 ∧ x.target.length ≤ 100000000000 ∧ x.data.length ≤ 100000000000) (hx : x.path.length ≤ 100000000000 ∧ x.target.length ≤ 100000000000 ∧ x.data.length ≤ 100000000000) (e0 : ¬ rerqm M x = 0) :
    Cal Tryd.prog 19 #[.pointer (some ⟨c, 0, none⟩), .agg #[.int .i64 x.kind, str x.path, .int .i64 x.mode, str x.target, .int .i64 x.size, x.dv]] h (fun v h' => v = .int .i64 (rerqm M x) ∧ Ext h h') := by
  obtain ⟨u, base, a, d, f, g⟩ := R
  exact (ref15_Add h hK hE c u M d.rows a x.kind x.path x.mode x.target x.size x.dv x.data hd hm (fun x hx => (hs x hx).1) (by omega) (by omega) (by omega) g).mono fun v h' ⟨e, q⟩ => ⟨e, (q.resolve_right (fun r => e0 r.1)).2⟩
end
end Go.Xp
