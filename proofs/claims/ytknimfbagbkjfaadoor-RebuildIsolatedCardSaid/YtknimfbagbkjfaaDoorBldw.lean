/- Layer 15 (rebuild): Check is pure. -/
import Derived.Test.YtknimfbagbkjfaaDoorBldz
import Derived.Test.YtknimfbagbkjfaaDoorTreeR
import Derived.Test.YtknimfbagbkjfaaDoorCanI
import Derived.Test.YtknimfbagbkjfaaDoorFitR
set_option linter.unusedSimpArgs false
set_option linter.unusedVariables false
set_option linter.unusedSectionVars false
namespace Go.Xp
open Go.Proofs

end Go.Xp

/- Layer 15 (rebuild): adding the members of a valid tree. -/
set_option linter.unusedSimpArgs false
set_option linter.unusedVariables false
set_option linter.unusedSectionVars false
namespace Go.Xp
open Go.Proofs

theorem mbs_mem1 {l : List Nod} {M : List Mem} (h : M.map erm = mbs l) (hz : terr l = 0) : M.map erm = mem1 (cno l) := by
  unfold mbs at h; rw [if_pos hz] at h; exact h
theorem inv_same {a b N C : List Nod} {n m : Nat} (e : cno N = C) (h1 : a.length = n ∧ a.map er = cno N) (h2 : b.length = m ∧ b.map er = C) : lsame a b = true := lsame_er.2 (h1.2.trans (e.trans h2.2.symm))
theorem nn (i : Nat) : ((i : Int)).toNat = i := Int.toNat_natCast i
theorem fed_err {C N : List Nod} {M : List Mem} (h : Fed C N) (hC : Cano C) (hM : M.map erm = mem1 C) {i : Nat} (hi : i < M.length) (e : N.length = i) : berr N (at_mem M ((i : Int)).toNat) = 0 := by
  rw [nn]; exact h.err hC hM hi e
theorem fed_add {C N : List Nod} {M : List Mem} (h : Fed C N) (hC : Cano C) (hM : M.map erm = mem1 C) {i : Nat} (hi : i < M.length) (e : N.length = i) (dv : Value) : Fed C (N ++ [bnod N (at_mem M ((i : Int)).toNat) dv]) := by
  rw [nn]; exact h.add hC hM hi e dv
theorem fed_sz {l : List Nod} {M : List Mem} (hz : terr l = 0) (hM : M.map erm = mem1 (cno l)) (hs : ∀ x ∈ l, x.path.length ≤ 100000000000 ∧ x.target.length ≤ 100000000000 ∧ x.data.length ≤ 100000000000) {i : Nat} (hi : i < M.length) : (at_mem M ((i : Int)).toNat).path.length ≤ 100000000000 ∧ (at_mem M ((i : Int)).toNat).target.length ≤ 100000000000 ∧ (at_mem M ((i : Int)).toNat).data.length ≤ 100000000000 := by
  rw [nn]; have := ord_len hz hM hs hi; exact ⟨this.1, this.2.1, this.2.2.1⟩

end Go.Xp

/- Layer 15 (rebuild): adding the first members of a valid tree. -/
set_option linter.unusedSimpArgs false
set_option linter.unusedVariables false
set_option linter.unusedSectionVars false
namespace Go.Xp
open Go.Proofs

/-- Nodes in canonical form. -/
def CanR (h : Heap) (v : Value) (N : List Nod) : Prop := ∃ L, Rows nodS h v L ∧ L.length = N.length ∧ L.map er = cno N
theorem CanR.ext {h h' : Heap} {v : Value} {N : List Nod} (x : CanR h v N) (y : Ext h h') : CanR h' v N := by
  obtain ⟨L, a, b⟩ := x; exact ⟨L, a.ext y, b⟩
end Go.Xp

/- Layer 15 (rebuild): the built tree has exactly the added members. -/
set_option linter.unusedSimpArgs false
set_option linter.unusedVariables false
set_option linter.unusedSectionVars false
namespace Go.Xp
open Go.Proofs

theorem mem1_add {N : List Nod} {x : Mem} (h : Bok N) (e : berr N x = 0) (dv : Value) : mem1 (N ++ [bnod N x dv]) = mem1 N ++ [erm x] := by
  obtain ⟨a1, a2, a3, a4⟩ := h.add (dv := dv) e
  unfold mem1
  rw [List.length_append]
  show (List.range (N.length + 1)).map _ = _
  rw [List.range_succ, List.map_append, List.map_cons, List.map_nil]
  congr 1
  · exact List.map_congr_left (fun i hi => msp_app (List.mem_range.1 hi))
  · exact congrArg (fun z => [z]) a2
end Go.Xp

/- Layer 15 (rebuild): the reference's Builder. -/
set_option linter.unusedSimpArgs false
set_option linter.unusedVariables false
set_option linter.unusedSectionVars false
namespace Go.Xp
open Go.Proofs

/-- The first member of this kind and path. -/
def mff : List Mem → Int → List UInt8 → Nat
  | [], _, _ => 0
  | x :: r, k, q => if x.kind = k ∧ x.path = q then 0 else mff r k q + 1
theorem mem_cons_succ (x : Mem) (r : List Mem) (k : Nat) : at_mem (x :: r) (k + 1) = at_mem r k := by simp [at_mem]
theorem mff_spec : ∀ {M : List Mem} {k : Int} {q : List UInt8}, mff M k q ≤ M.length ∧ (∀ j, j < mff M k q → ¬ ((at_mem M j).kind = k ∧ (at_mem M j).path = q)) ∧ (mff M k q < M.length → (at_mem M (mff M k q)).kind = k ∧ (at_mem M (mff M k q)).path = q)
  | [], k, q => ⟨Nat.le_refl _, fun j h => absurd h (Nat.not_lt_zero _), fun h => absurd h (Nat.not_lt_zero _)⟩
  | x :: r, k, q => by
    obtain ⟨h1, h2, h3⟩ := @mff_spec r k q
    unfold mff
    by_cases h : x.kind = k ∧ x.path = q
    · rw [if_pos h]; exact ⟨Nat.zero_le _, fun j hj => absurd hj (Nat.not_lt_zero _), fun _ => h⟩
    · rw [if_neg h]
      refine ⟨by simp only [List.length_cons]; omega, fun j hj => ?_, fun hl => ?_⟩
      · cases j with
        | zero => exact h
        | succ j => rw [mem_cons_succ]; exact h2 j (by omega)
      · rw [mem_cons_succ]; exact h3 (by simpa using hl)
theorem mff_eq {M : List Mem} {k : Int} {q : List UInt8} {i : Nat} (hi : i < M.length) (h0 : ∀ j, j < i → ¬ ((at_mem M j).kind = k ∧ (at_mem M j).path = q)) (h : (at_mem M i).kind = k ∧ (at_mem M i).path = q) : mff M k q = i := by
  obtain ⟨h1, h2, h3⟩ := @mff_spec M k q
  rcases Nat.lt_trichotomy (mff M k q) i with e | e | e
  · exact absurd (h3 (by omega)) (h0 _ e)
  · exact e
  · exact absurd h (h2 i e)
def mfind (M : List Mem) (k : Int) (q : List UInt8) : Int := if mff M k q < M.length then (mff M k q : Int) else -1
theorem mfind_y {M : List Mem} {k : Int} {q : List UInt8} {i : Nat} (hi : i < M.length) (h0 : ∀ j, j < i → ¬ ((at_mem M j).kind = k ∧ (at_mem M j).path = q)) (h : (at_mem M i).kind = k ∧ (at_mem M i).path = q) : mfind M k q = i := by
  unfold mfind; rw [mff_eq hi h0 h, if_pos hi]
section
variable {M : List Mem} {k m z : Int} {p tg : List UInt8}
end
end Go.Xp

/- Layer 15 (rebuild): the reference's Nodes, and that the two Builders say the same. -/
set_option linter.unusedSimpArgs false
set_option linter.unusedVariables false
set_option linter.unusedSectionVars false
namespace Go.Xp
open Go.Proofs

def rnod (M : List Mem) (i : Nat) : Nod :=
  if (at_mem M i).kind = 3 then ⟨1, (at_mem M i).path, (at_mem M i).mode, [], (at_mem M (mfind M 1 (at_mem M i).target).toNat).dv, (at_mem M (mfind M 1 (at_mem M i).target).toNat).data, mfind M 1 (at_mem M i).target + 1⟩
  else ⟨(at_mem M i).kind, (at_mem M i).path, (at_mem M i).mode, (at_mem M i).target, (at_mem M i).dv, (at_mem M i).data, if (at_mem M i).kind = 1 then (i : Int) + 1 else 0⟩
def rnods (M : List Mem) : Nat → List Nod
  | 0 => []
  | i + 1 => rnods M i ++ [rnod M i]
@[simp] theorem rnods_len (M : List Mem) : ∀ i, (rnods M i).length = i
  | 0 => rfl
  | i + 1 => by unfold rnods; rw [List.length_append, rnods_len M i]; rfl
section
variable {M : List Mem} {P : List UInt8 → List UInt8 → Prop}
end
end Go.Xp

/- Layer 15 (rebuild): the Builder and the reference's Builder side by side: theory and calls. -/
set_option linter.unusedSimpArgs false
set_option linter.unusedVariables false
set_option linter.unusedSectionVars false
namespace Go.Xp
open Go.Proofs

/-- The nodes and the members of the same calls. -/
structure Sim (N : List Nod) (M : List Mem) : Prop where
  ok : Bok N
  mem : mem1 N = M.map erm
theorem Sim.nil : Sim [] [] := ⟨Bok.nil, rfl⟩
section
variable {N : List Nod} {M : List Mem}
theorem Sim.len (h : Sim N M) : M.length = N.length := om_len h.mem.symm
theorem Sim.at (h : Sim N M) {i : Nat} (hi : i < N.length) : msp N i = erm (at_mem M i) := (om_msp h.mem.symm hi).symm
theorem Sim.path (h : Sim N M) {i : Nat} (hi : i < N.length) : (at_mem M i).path = (at_nod N i).path := by rw [← msp_path, h.at hi]; rfl
theorem Sim.mode (h : Sim N M) {i : Nat} (hi : i < N.length) : (at_mem M i).mode = (at_nod N i).mode := by rw [← msp_mode, h.at hi]; rfl
theorem Sim.kind (h : Sim N M) {i : Nat} (hi : i < N.length) : (at_mem M i).kind = (msp N i).kind := by rw [h.at hi]; rfl
theorem Bok.nlk (h : Bok N) {i : Nat} (hi : i < N.length) (hF : Fil N i) : ¬ Lk N i := by
  rcases h.lk hi hF.1 with q | ⟨j, h1, h2, _⟩
  · exact q.2
  · have := hF.2; omega
theorem Sim.file (h : Sim N M) {i : Nat} (hi : i < N.length) : (at_mem M i).kind = 1 ↔ Fil N i := by
  rw [h.kind hi]
  constructor
  · intro q
    obtain ⟨n1, n2⟩ := msp_one q
    rcases h.ok.lk hi n2 with r | ⟨j, _, _, _, r, _⟩
    · exact r.1
    · exact absurd r n1
  · intro q
    rw [msp_nl (h.ok.nlk hi q), if_pos q.1]; exact q.1
theorem Sim.uniq (h : Sim N M) {i j : Nat} (hi : i < N.length) (hj : j < N.length) (e : (at_mem M i).path = (at_mem M j).path) : i = j := by
  rw [h.path hi, h.path hj] at e
  by_cases q : i = j
  · exact q
  · exact absurd e (up_ne h.ok.up hi hj q)
theorem Sim.find (h : Sim N M) {i : Nat} {k : Int} {q : List UInt8} (hi : i < N.length) (h1 : (at_mem M i).kind = k) (h2 : (at_mem M i).path = q) : mfind M k q = i :=
  mfind_y (by rw [h.len]; exact hi) (fun j hj e => by have := h.uniq (i := j) (j := i) (by omega) hi (e.2.trans h2.symm); omega) ⟨h1, h2⟩
theorem rnods_map (M : List Mem) : ∀ k, rnods M k = (List.range k).map (rnod M)
  | 0 => rfl
  | k + 1 => by unfold rnods; rw [rnods_map M k, List.range_succ, List.map_append]; rfl
theorem Sim.fnd (h : Sim N M) {i : Nat} (hi : i < N.length) (k3 : (at_mem M i).kind = 3) : ∃ j, j < i ∧ Fil N j ∧ Lk N i ∧ (at_nod N i).cls = (j : Int) + 1 ∧ nfirst N (at_nod N i).cls = j ∧ mfind M 1 (at_mem M i).target = j := by
  have hk : (msp N i).kind = 3 := by rw [← h.kind hi]; exact k3
  have hlk : Lk N i := by
    by_cases q : Lk N i
    · exact q
    · have t := (tone_parts (h.ok.one i hi)).1
      rw [msp_nl q] at hk
      split at hk
      · rename_i r; simp only at hk; omega
      · simp only at hk; omega
  rcases h.ok.lk hi hlk.1.1 with q | ⟨j, j1, j2, j3, j4, j5⟩
  · exact absurd hlk q.2
  · refine ⟨j, j1, j3, hlk, j2, j5, ?_⟩
    have et : (at_mem M i).target = (at_nod N j).path := by
      have := congrArg Mem.target (h.at hi)
      rw [msp_lk hlk, j5] at this
      exact this.symm
    rw [et, ← h.path (i := j) (by omega)]
    exact h.find (by omega) ((h.file (by omega)).2 j3) rfl
theorem Sim.hk (h : Sim N M) : ∀ i, i < M.length → (at_mem M i).kind = 3 → 0 ≤ mfind M 1 (at_mem M i).target := fun i hi k3 => by
  obtain ⟨j, _, _, _, _, _, e⟩ := h.fnd (by rw [← h.len]; exact hi) k3
  omega
theorem Sim.dat (h : Sim N M) {i : Nat} (hi : i < N.length) (hn : ¬ Lk N i) : (at_mem M i).kind = (at_nod N i).kind ∧ (at_mem M i).target = (at_nod N i).target ∧ (at_mem M i).data = (at_nod N i).data := by
  have t := tone_parts (h.ok.one i hi)
  have e := h.at hi
  rw [msp_nl hn] at e
  by_cases q : (at_nod N i).kind = 1
  · rw [if_pos q] at e
    exact ⟨(congrArg Mem.kind e).symm, (congrArg Mem.target e).symm, (congrArg Mem.data e).symm⟩
  · rw [if_neg q] at e
    exact ⟨(congrArg Mem.kind e).symm, (congrArg Mem.target e).symm, (congrArg Mem.data e).symm.trans (t.2.2.1 q).symm⟩
theorem Sim.nod (h : Sim N M) {i : Nat} (hi : i < N.length) : er (rnod M i) = er (at_nod N i) := by
  have t := tone_parts (h.ok.one i hi)
  by_cases k3 : (at_mem M i).kind = 3
  · obtain ⟨j, j1, j2, j3, j4, j5, j6⟩ := h.fnd hi k3
    have hj : j < N.length := by omega
    have r := h.ok.rep hi (by omega)
    obtain ⟨a, a1, a2, a3, a4, a5, a6, a7⟩ := r
    have : a = j := by omega
    subst this
    have d := (h.dat hj (h.ok.nlk hj j2)).2.2
    unfold rnod
    rw [if_pos k3, j6]
    unfold er
    simp only [Int.toNat_natCast]
    rw [h.path hi, h.mode hi, d, a6, j4, j3.1.1, file_target (h.ok.one i hi) j3.1.1]
  · have hn : ¬ Lk N i := fun q => k3 (by rw [h.kind hi, msp_lk q])
    obtain ⟨d1, d2, d3⟩ := h.dat hi hn
    unfold rnod
    rw [if_neg k3]
    unfold er
    simp only
    rw [h.path hi, h.mode hi, d1, d2, d3]
    congr 1
    by_cases q : (at_nod N i).kind = 1
    · rw [if_pos q]
      rcases h.ok.lk hi q with r | ⟨_, _, _, _, r, _⟩
      · exact r.1.2.symm
      · exact absurd r hn
    · rw [if_neg q, t.2.2.2.2 q]
theorem Sim.nodes (h : Sim N M) : cno (rnods M M.length) = cno N := by
  rw [← bd_map_er, ← bd_map_er N, rnods_map]
  congr 1
  apply List.ext_getElem
  · simp [h.len]
  · intro i q1 q2
    simp only [List.length_map, List.length_range] at q1 q2
    simp only [List.getElem_map, List.getElem_range]
    rw [h.nod q2, nod_eq q2]
def wdv (x : Mem) (dv : Value) : Mem := ⟨x.kind, x.path, x.mode, x.target, x.size, dv, x.data⟩
theorem Sim.add (h : Sim N M) {x : Mem} (e : berr N x = 0) (dv dv' : Value) : Sim (N ++ [bnod N x dv]) (M ++ [wdv x dv']) :=
  ⟨(h.ok.add (dv := dv) e).1, by rw [mem1_add h.ok e, h.mem, List.map_append]; rfl⟩
end

/-- The reference's Builder stands at c. -/
def RAt (h : Heap) (c : Nat) (M : List Mem) : Prop :=
  ∃ u base, Blk h c [u] ∧ RowsO memS h base u M ∧ (M = [] → u = .slice none 0 0) ∧ ∀ x ∈ M, Off h x.dv x.data
theorem RAt.ext {h h' : Heap} {c : Nat} {M : List Mem} (R : RAt h c M) (x : Ext h h') : RAt h' c M := by
  obtain ⟨u, base, a, b, d, e⟩ := R
  exact ⟨u, base, a.ext x, b.ext x, d, fun a q => (e a q).ext x⟩
section
variable {h0 h hq : Heap} {b c : Nat} {N : List Nod} {M : List Mem}
end
end Go.Xp
