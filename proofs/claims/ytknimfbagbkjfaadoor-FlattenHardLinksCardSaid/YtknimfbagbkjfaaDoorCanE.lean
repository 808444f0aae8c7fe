/- tree.Equal and the law that Canon and Equal are the reference's: what the code does. -/
import Derived.Test.YtknimfbagbkjfaaDoorCanL
import Derived.Test.YtknimfbagbkjfaaDoorTreeV
set_option linter.unusedSimpArgs false
set_option linter.unusedVariables false
set_option linter.unusedSectionVars false
namespace Go.Xp
open Go.Proofs

def okl (p t d : List UInt8) : Prop := p.length ≤ 100000000000 ∧ t.length ≤ 100000000000 ∧ d.length ≤ 100000000000
theorem tree_Canon (h : Heap) (l : Value) (L : List Nod) (hL : Rows nodS h l L) (hm : L.length ≤ 1000000000) (hs : ∀ x ∈ L, x.path.length ≤ 100000000000 ∧ x.target.length ≤ 100000000000 ∧ x.data.length ≤ 100000000000) :
    Cal Tryd.prog 34 #[l] h (fun v h' => ∃ s0 L0, v = s0 ∧ Rows nodS h' s0 L0 ∧ (L0.length = L.length ∧ L0.map er = cno L) ∧ Ext h h') :=
  (tree_CanonR h l L hL (by omega) (fun x hx => by have := hs x hx; omega)).mono fun v h' ⟨e, x, L', q1, q2, q3⟩ => ⟨v, L', rfl, by rw [e, ← q1]; exact q2.rows rfl, ⟨q1, q3⟩, x⟩
theorem ref13_Canon (h : Heap) (l : Value) (L : List Nod) (hL : Rows nodS h l L) (hm : L.length ≤ 1000000000) (hs : ∀ x ∈ L, x.path.length ≤ 100000000000 ∧ x.target.length ≤ 100000000000 ∧ x.data.length ≤ 100000000000) :
    Cal Tryd.prog 24 #[l] h (fun v h' => ∃ s0 L0, v = s0 ∧ Rows nodS h' s0 L0 ∧ (L0.length = L.length ∧ L0.map er = cno L) ∧ Ext h h') :=
  (ref13_CanonR h l L hL hm (fun x hx => ⟨(hs x hx).1, (hs x hx).2.2⟩)).mono fun v h' ⟨L', q1, q2, q3, x⟩ => ⟨v, L', rfl, q1, ⟨q2, by rw [q3, rcn_cno]⟩, x⟩

set_option maxRecDepth 100000 in
theorem ref13_Equal (h : Heap) (v : Value) (A : List Nod) (ha : Rows nodS h v A) (u : Value) (B : List Nod) (hb : Rows nodS h u B) (hm1 : A.length ≤ 1000000000) (hm2 : B.length ≤ 1000000000) (hs1 : ∀ x ∈ A, x.path.length ≤ 100000000000 ∧ x.target.length ≤ 100000000000 ∧ x.data.length ≤ 100000000000) (hs2 : ∀ x ∈ B, x.path.length ≤ 100000000000 ∧ x.target.length ≤ 100000000000 ∧ x.data.length ≤ 100000000000) : Cal Tryd.prog 28 #[v, u] h (fun v h' => v = .bool (lsame (cno A) (cno B)) ∧ Ext h h') := by
  refine Cal_enter (args := [v, u]) Tryd.func28 rfl rfl rfl (fun σ => ?_)
  refine W_seq ?_
  refine W_region ?_
  refine L_yld (Y_assign rfl) rfl rfl rfl ?_
  refine L_nil ?_
  refine X_then ?_
  refine W_seq ?_
  refine W_region ?_
  refine L_yld (Y_move rfl) rfl rfl rfl ?_
  refine L_call (E_call (by kernel_rfl) rfl) (ref13_Canon _ v A ha hm1 hs1) rfl rfl rfl ?_
  rintro s01 h1 ⟨_, L02, rfl, hr03, hq04, hx5⟩
  refine L_yld (Y_move rfl) rfl rfl rfl ?_
  refine L_call (E_call (by kernel_rfl) rfl) (ref13_Canon _ u B (hb.ext hx5) hm2 hs2) rfl rfl rfl ?_
  rintro s06 h2 ⟨_, L07, rfl, hr08, hq09, hx10⟩
  refine L_call (E_call (by kernel_rfl) rfl) (ref13_Same _ s01 L02 (hr03.ext hx10) s06 L07 hr08 (by have := hq04.1; omega)) rfl rfl rfl ?_
  rintro _ h3 ⟨rfl, hx11⟩
  refine L_yld (Y_assign rfl) rfl rfl rfl ?_
  refine L_nil ?_
  refine X_then ?_
  refine W_sub _ (.cons (i := 4) rfl (.nil _)) ?_
  refine W_ret ?_
  refine X_ret1 rfl rfl ?_
  exact ⟨congrArg Value.bool (lsame_c (by assumption) (by assumption)), ((hx5.trans hx10).trans hx11)⟩
end Go.Xp
