/- Layer 15 (rebuild): Builder.Nodes, and the Builder's calls as the laws want them. -/
import Derived.Test.YtknimfbagbkjfaaDoorBlda
import Derived.Test.YtknimfbagbkjfaaDoorBldv
import Derived.Test.YtknimfbagbkjfaaDoorCanI
set_option linter.unusedSimpArgs false
set_option linter.unusedVariables false
set_option linter.unusedSectionVars false
namespace Go.Xp
open Go.Proofs

set_option maxRecDepth 100000 in
theorem builder_Nodes (h : Heap) (hK : GlbK h) (hE : GlbE h) (b : Nat) (v : Value) (L : List Nod) (hL : Rows nodS h v L) (m1 : Nat) (D : List (List UInt8)) (hD : SetK h m1 D) (m2 : Nat) (F : List (List UInt8 × Int)) (hF : MapF h m2 F) (hb : Blk h b [v, .map (some m1), .map (some m2)]) (hm : L.length ≤ 1000000000) (hs : ∀ x ∈ L, x.path.length ≤ 100000000000 ∧ x.target.length ≤ 100000000000 ∧ x.data.length ≤ 100000000000) : Cal Tryd.prog 14 #[.pointer (some ⟨b, 0, none⟩)] h (fun v h' => ∃ s0 L0, v = s0 ∧ Rows nodS h' s0 L0 ∧ (L0.length = L.length ∧ L0.map er = cno L) ∧ Ext h h') := by
 refine Cal_enter (args := [.pointer (some ⟨b, 0, none⟩)]) Tryd.func14 rfl rfl rfl (fun σ => ?_)
 refine Wr ?_
 refine Av ?_
 refine L_nil (X_then (W_seq (W_seq (W_region ?_))))
 refine Mv ?_
 refine Ly (Y_pnil (ad := some ⟨b, 0, none⟩) (show _ = some (TypeDesc.pointer (Tryd.prog.pointee 23)) by kernel_rfl) rfl rfl) ?_
 refine Nx ?_
 refine W_sub _ (tk3 4 2 0) ?_
 refine W_false rfl ?_
 refine Ws ?_
 refine W_sub _ (tk2 2 0) ?_
 refine Wr ?_
 refine Mv ?_
 refine Ly (Y_nilCheck rfl) ?_
 refine Ly (Y_fieldAddr (off := 0) (by kernel_rfl) rfl rfl) ?_
 refine Ly (Y_ldblk Tryd.underlying32 rfl rfl hb rfl) ?_
 refine L_call (E_call (by kernel_rfl) rfl) (tree_Canon _ v L hL hm hs) rfl rfl rfl ?_
 rintro s01 h1 ⟨_, L02, rfl, hr03, hq04, hx5⟩
 refine Av ?_
 refine Nx ?_
 refine W_sub _ (tk1 2) ?_
 refine W_ret ?_
 refine X_ret1 rfl rfl ?_
 exact ⟨_, _, rfl, hr03, (by assumption), hx5⟩

theorem BSt.ext {h h' : Heap} {base b m1 m2 : Nat} {w : Value} {L : List Nod} {D : List (List UInt8)} {F : List (List UInt8 × Int)} (s : BSt h base b m1 m2 w L D F) (x : Ext h h') : BSt h' base b m1 m2 w L D F :=
  ⟨s.blk.ext x, s.dirs.ext x, s.files.ext x, s.rows.ext x, fun a q => (s.off a q).ext x⟩
/-- A Builder with these nodes stands at b, all of it newer than h0. -/
def BAt (h0 h : Heap) (b : Nat) (N : List Nod) : Prop :=
  ∃ m1 m2 w, BSt h h0.size b m1 m2 w N (dirk N N.length) (filk N N.length) ∧ (h0.size ≤ b ∧ h0.size ≤ m1 ∧ h0.size ≤ m2) ∧ (b ≠ m1 ∧ b ≠ m2 ∧ m1 ≠ m2) ∧ (N = [] → w = .slice none 0 0)
structure BL (h0 h : Heap) (b : Nat) (N : List Nod) : Prop where
  st : BAt h0 h b N
  ok : Bok N
  sz : ∀ x ∈ N, x.path.length ≤ 100000000000 ∧ x.target.length ≤ 100000000000 ∧ x.data.length ≤ 100000000000
theorem BL.ext {h0 h h' : Heap} {b : Nat} {N : List Nod} (B : BL h0 h b N) (x : Ext h h') : BL h0 h' b N := by
  obtain ⟨⟨m1, m2, w, s, q⟩, k, z⟩ := B
  exact ⟨⟨m1, m2, w, s.ext x, q⟩, k, z⟩
def berr (N : List Nod) (x : Mem) : Int := aerr N (dirk N N.length) (filk N N.length) x.kind x.path x.mode x.target x.size x.data
def bnod (N : List Nod) (x : Mem) (dv : Value) : Nod := anod N (filk N N.length) x.kind x.path x.mode x.target dv x.data
theorem bnod_sz {N : List Nod} {x : Mem} {dv : Value} (hs : ∀ x ∈ N, x.path.length ≤ 100000000000 ∧ x.target.length ≤ 100000000000 ∧ x.data.length ≤ 100000000000) (hx : x.path.length ≤ 100000000000 ∧ x.target.length ≤ 100000000000 ∧ x.data.length ≤ 100000000000) : ∀ y ∈ N ++ [bnod N x dv], y.path.length ≤ 100000000000 ∧ y.target.length ≤ 100000000000 ∧ y.data.length ≤ 100000000000 := fun y hy => by
  rcases List.mem_append.1 hy with q | q
  · exact hs y q
  · rw [List.mem_singleton.1 q]
    unfold bnod anod
    split
    · exact hx
    · split
      · refine ⟨hx.1, by simp, ?_⟩
        by_cases h9 : ((aget (filk N N.length) x.target).getD 0).toNat < N.length
        · exact (hs _ (can_mem h9)).2.2
        · unfold at_nod
          rw [List.getD_eq_getElem?_getD, List.getElem?_eq_none (by omega)]
          show ([] : List UInt8).length ≤ _
          simp
      · exact hx
theorem bnod_new {N : List Nod} {x : Mem} {dv : Value} {H : Nat} (hf : x.kind = 3 ∨ ∀ d, blk2 dv = some d → H ≤ d) (a : Nat) (ha : a < H) (hN : ∀ y ∈ N, blk2 y.dv ≠ some a) : ∀ y ∈ N ++ [bnod N x dv], blk2 y.dv ≠ some a := fun y hy => by
  rcases List.mem_append.1 hy with q | q
  · exact hN y q
  · rw [List.mem_singleton.1 q]
    unfold bnod anod
    split
    · rename_i k1
      intro e
      rcases hf with k3 | f
      · omega
      · have := f a e; omega
    · split
      · by_cases h9 : ((aget (filk N N.length) x.target).getD 0).toNat < N.length
        · exact hN (at_nod N ((aget (filk N N.length) x.target).getD 0).toNat) (can_mem h9)
        · intro e
          have e2 : at_nod N ((aget (filk N N.length) x.target).getD 0).toNat = nodS.d := by
            unfold at_nod
            rw [List.getD_eq_getElem?_getD, List.getElem?_eq_none (by omega)]; rfl
          rw [e2] at e
          cases e
      · rename_i k1 k3
        intro e
        rcases hf with q3 | f
        · exact k3 q3
        · have := f a e; omega
section
variable {h0 h : Heap} {b : Nat} {N : List Nod}
theorem blk_ne_map {m : Nat} {cs : List Value} {α : Type} [DecidableEq α] {enc : α → Value} {M : List (α × Value)} (k : Blk h b cs) (k2 : MapK enc h m M) : b ≠ m := fun q => by
  subst q
  obtain ⟨_, _, _, g1, _⟩ := k
  have g2 := MapK.get k2
  rw [g1] at g2; cases g2
theorem set_ne_map {m1 m2 : Nat} (k1 : SetK h m1 [[]]) (k2 : MapF h m2 []) : m1 ≠ m2 := fun q => by
  subst q
  have g1 := MapK.get k1
  have g2 := MapK.get k2
  rw [g1] at g2; cases g2
theorem bl_New (h : Heap) : Cal Tryd.prog 17 #[] h (fun v h' => ∃ b, v = .pointer (some ⟨b, 0, none⟩) ∧ BL h h' b [] ∧ Ext h h') :=
  (rebuild_New h).mono fun v h' ⟨b, m1, m2, e, l, k1, k2, k3, x⟩ => ⟨b, e, ⟨⟨m1, m2, .slice none 0 0, ⟨k1, k2, k3, RowsO.nil _ _ _, fun x hx => absurd hx List.not_mem_nil⟩, l, ⟨blk_ne_map k1 k2, blk_ne_map k1 k3, set_ne_map k2 k3⟩, fun _ => rfl⟩, Bok.nil, fun x hx => absurd hx List.not_mem_nil⟩, x⟩
theorem bl_Nodes (hK : GlbK h) (hE : GlbE h) (B : BL h0 h b N) (hm : N.length ≤ 1000000000) :
    Cal Tryd.prog 14 #[.pointer (some ⟨b, 0, none⟩)] h (fun v h' => ∃ L, Rows nodS h' v L ∧ (L.length = N.length ∧ L.map er = cno N) ∧ Ext h h') := by
  obtain ⟨⟨m1, m2, w, s, l, ne, hn⟩, ok, sz⟩ := B
  exact (builder_Nodes h hK hE b w N s.rows.rows m1 _ s.dirs m2 _ s.files s.blk hm sz).mono fun v h' ⟨s0, L, e, q⟩ => ⟨L, e ▸ q.1, q.2⟩
theorem bl_AddY {hq : Heap} (hK : GlbK h) (hE : GlbE h) (B : BL h0 hq b N) (xq : Ext hq h) (x0 : Ext h0 h) (x : Mem) (hd : memS.ok h x) (hm : N.length ≤ 1000000000) (hx : x.path.length ≤ 100000000000 ∧ x.target.length ≤ 100000000000 ∧ x.data.length ≤ 100000000000) :
    Cal Tryd.prog 12 #[.pointer (some ⟨b, 0, none⟩), .agg #[.int .i64 x.kind, str x.path, .int .i64 x.mode, str x.target, .int .i64 x.size, x.dv]] h
      (fun v h' => v = .int .i64 (berr N x) ∧ (∃ bs, Only bs h h' ∧ (∀ c ∈ bs, h0.size ≤ c) ∧ (∀ c ∈ bs, c < hq.size) ∧ (∀ (base : Nat) (v : Value) (A : List Mem), RowsO memS h base v A → (A = [] → v = .slice none 0 0) → ∀ c ∈ bs, c ∉ (blockOf v).toList) ∧ (∀ (c : Nat) (u : Value), Blk h c [u] → (∀ k z, u ≠ .int k z) → c ∉ bs) ∧ ∀ (d : Nat) (k : Int), cellAt h d 0 = some (.int .u8 k) → d ∉ bs) ∧ ((¬ berr N x = 0 ∧ Ext h h') ∨ (berr N x = 0 ∧ ∃ dv, BL h0 h' b (N ++ [bnod N x dv]) ∧ ∀ a, a < h.size → (∀ y ∈ N, blk2 y.dv ≠ some a) → ∀ y ∈ N ++ [bnod N x dv], blk2 y.dv ≠ some a))) := by
  obtain ⟨⟨m1, m2, w, s0, l, ne, hn⟩, ok, sz⟩ := B
  have s := s0.ext xq
  refine (builder_Add h hK hE h0 ⟨x0.size⟩ b w N s.rows m1 _ s.dirs m2 _ s.files s.blk x.kind x.path x.mode x.target x.size x.dv x.data hd hm ok.idx (by omega) (by omega) (by omega) ne s.off hn).mono fun v h' ⟨e, q⟩ => ⟨e, ?_⟩
  rcases q with ⟨q1, q2⟩ | ⟨q1, q2, u, dv', q9, q3⟩
  · exact ⟨⟨[], q2, fun c hc => absurd hc List.not_mem_nil, fun c hc => absurd hc List.not_mem_nil, fun _ _ _ _ _ c hc => absurd hc List.not_mem_nil, fun _ _ _ _ hc => absurd hc List.not_mem_nil, fun _ _ _ hc => absurd hc List.not_mem_nil⟩, .inl ⟨q1, q2⟩⟩
  · obtain ⟨a1, a2, a3, a4⟩ := ok.add (dv := dv') q1
    refine ⟨⟨_, q2, fun c hc => ?_, fun c hc => ?_, fun base v A p hv c hc => ?_, fun c u hb hu hc => ?_, fun d k e hc => ?_⟩, .inr ⟨q1, dv', ⟨⟨m1, m2, u, ?_, l, ne, fun e => absurd e (by simp)⟩, a1, bnod_sz sz hx⟩, bnod_new q9⟩⟩
    · rcases List.mem_append.1 hc with hc | hc
      · simp only [List.mem_cons, List.not_mem_nil, or_false] at hc
        rcases hc with rfl | rfl | rfl
        · exact l.1
        · exact l.2.1
        · exact l.2.2
      · exact (Own.lt s.rows.1 c (by simpa using hc)).1
    · rcases List.mem_append.1 hc with hc | hc
      · simp only [List.mem_cons, List.not_mem_nil, or_false] at hc
        rcases hc with rfl | rfl | rfl
        · exact s0.blk.lt
        · exact MapK.lt s0.dirs
        · exact MapK.lt s0.files
      · exact (Own.lt s0.rows.1 c (by simpa using hc)).2
    · rcases List.mem_append.1 hc with hc | hc
      · simp only [List.mem_cons, List.not_mem_nil, or_false] at hc
        rcases hc with rfl | rfl | rfl
        · exact mrow_box p hv s.blk (row_noint s.rows).2
        · exact mrow_map p hv s.dirs
        · exact mrow_map p hv s.files
      · exact mrow_row p hv s.rows hn hc
    · rcases List.mem_append.1 hc with hc | hc
      · simp only [List.mem_cons, List.not_mem_nil, or_false] at hc
        rcases hc with rfl | rfl | rfl
        · have := Blk.inj s.blk hb
          simp at this
        · exact blk_ne_map hb s.dirs rfl
        · exact blk_ne_map hb s.files rfl
      · obtain ⟨⟨k, e1⟩, -⟩ := nod_cells s.rows hn hc
        rw [hb.cell] at e1; simp at e1; exact hu _ _ e1
    · rcases List.mem_append.1 hc with hc | hc
      · simp only [List.mem_cons, List.not_mem_nil, or_false] at hc
        rcases hc with rfl | rfl | rfl
        · rw [s.blk.cell] at e; simp at e; exact (row_noint s.rows).2 _ _ e
        · unfold cellAt at e; rw [MapK.get s.dirs] at e; cases e
        · unfold cellAt at e; rw [MapK.get s.files] at e; cases e
      · obtain ⟨⟨k', e1⟩, -⟩ := nod_cells s.rows hn hc
        rw [e1] at e; cases e
    · show BSt h' h0.size b m1 m2 u (N ++ [anod N (filk N N.length) x.kind x.path x.mode x.target dv' x.data]) _ _
      unfold bnod
      rw [a3, a4]; exact q3
theorem bl_AddX {hq : Heap} (hK : GlbK h) (hE : GlbE h) (B : BL h0 hq b N) (xq : Ext hq h) (x0 : Ext h0 h) (x : Mem) (hd : memS.ok h x) (hm : N.length ≤ 1000000000) (hx : x.path.length ≤ 100000000000 ∧ x.target.length ≤ 100000000000 ∧ x.data.length ≤ 100000000000) :
    Cal Tryd.prog 12 #[.pointer (some ⟨b, 0, none⟩), .agg #[.int .i64 x.kind, str x.path, .int .i64 x.mode, str x.target, .int .i64 x.size, x.dv]] h
      (fun v h' => v = .int .i64 (berr N x) ∧ (∃ bs, Only bs h h' ∧ (∀ c ∈ bs, h0.size ≤ c) ∧ (∀ c ∈ bs, c < hq.size) ∧ ∀ (base : Nat) (v : Value) (A : List Mem), RowsO memS h base v A → (A = [] → v = .slice none 0 0) → ∀ c ∈ bs, c ∉ (blockOf v).toList) ∧ ((¬ berr N x = 0 ∧ Ext h h') ∨ (berr N x = 0 ∧ ∃ dv, BL h0 h' b (N ++ [bnod N x dv])))) :=
  (bl_AddY hK hE B xq x0 x hd hm hx).mono fun v h' ⟨e, ⟨bs, q1, q2, q3, q4, _⟩, q⟩ => ⟨e, ⟨bs, q1, q2, q3, q4⟩, q.imp id (fun ⟨r1, dv, r2, _⟩ => ⟨r1, dv, r2⟩)⟩
theorem bl_Add {hq : Heap} (hK : GlbK h) (hE : GlbE h) (B : BL h0 hq b N) (xq : Ext hq h) (x0 : Ext h0 h) (x : Mem) (hd : memS.ok h x) (hm : N.length ≤ 1000000000) (hx : x.path.length ≤ 100000000000 ∧ x.target.length ≤ 100000000000 ∧ x.data.length ≤ 100000000000) :
    Cal Tryd.prog 12 #[.pointer (some ⟨b, 0, none⟩), .agg #[.int .i64 x.kind, str x.path, .int .i64 x.mode, str x.target, .int .i64 x.size, x.dv]] h
      (fun v h' => v = .int .i64 (berr N x) ∧ (∃ bs, Only bs h h' ∧ (∀ c ∈ bs, h0.size ≤ c) ∧ ∀ c ∈ bs, c < hq.size) ∧ ((¬ berr N x = 0 ∧ Ext h h') ∨ (berr N x = 0 ∧ ∃ dv, BL h0 h' b (N ++ [bnod N x dv])))) :=
  (bl_AddX hK hE B xq x0 x hd hm hx).mono fun v h' ⟨e, ⟨bs, q1, q2, q3, _⟩, q⟩ => ⟨e, ⟨bs, q1, q2, q3⟩, q⟩
/-- Bytes of another call were written. -/
theorem BL.own {h' : Heap} {base : Nat} {v : Value} {l : List UInt8} (B : BL h0 h b N) (o : OwnB h base v l) (hl : l ≠ []) (hN : ∀ a ∈ (blockOf v).toList, ∀ y ∈ N, blk2 y.dv ≠ some a) (y : Only (blockOf v).toList h h') : BL h0 h' b N := by
  obtain ⟨⟨m1, m2, w, s, l0, ne, hn⟩, ok, sz⟩ := B
  have hoff : ∀ x ∈ N, Off h' x.dv x.data := fun x hx => (s.off x hx).only2 y (fun d hd hm => hN d hm x hx hd)
  refine ⟨⟨m1, m2, w, ⟨s.blk.only y (fun q => ?_), MapK.only s.dirs y (fun q => ?_), MapK.only s.files y (fun q => ?_), ⟨Own.only s.rows.1 y (fun c' hc' hM => ?_), fun x hx => (hoff x hx).1⟩, hoff⟩, l0, ne, hn⟩, ok, sz⟩
  · obtain ⟨k, e⟩ := own_cell0 o hl q
    rw [s.blk.cell] at e; simp at e; exact (row_noint s.rows).2 _ _ e
  · obtain ⟨k, e⟩ := own_cell0 o hl q
    unfold cellAt at e; rw [MapK.get s.dirs] at e; cases e
  · obtain ⟨k, e⟩ := own_cell0 o hl q
    unfold cellAt at e; rw [MapK.get s.files] at e; cases e
  · obtain ⟨k, e⟩ := own_cell0 o hl hM
    obtain ⟨⟨k2, e2⟩, -⟩ := nod_cells s.rows hn (c := c') (by rw [hc']; simp)
    rw [e] at e2; cases e2
end
end Go.Xp
