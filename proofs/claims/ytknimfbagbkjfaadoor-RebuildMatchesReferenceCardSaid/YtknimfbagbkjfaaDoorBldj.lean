/- Layer 15 (rebuild): Check is pure. -/
import Derived.Test.YtknimfbagbkjfaaDoorBldz
import Derived.Test.YtknimfbagbkjfaaDoorTreeR
import Derived.Test.YtknimfbagbkjfaaDoorFlaO
import Derived.Test.YtknimfbagbkjfaaDoorAppE
set_option linter.unusedSimpArgs false
set_option linter.unusedVariables false
set_option linter.unusedSectionVars false
namespace Go.Xp
open Go.Proofs

end Go.Xp

/- Layer 15 (rebuild): adding the members of a valid tree. -/
set_option linter.unusedSimpArgs false
set_option linter.unusedVariables false
set_option linter.unusedSectionVars false
namespace Go.Xp
open Go.Proofs

theorem nn (i : Nat) : ((i : Int)).toNat = i := Int.toNat_natCast i
end Go.Xp

/- Layer 14 (flatten): the reference's Members, and Same: what the code does, step by step. -/
set_option linter.unusedSimpArgs false
set_option linter.unusedVariables false
set_option linter.unusedSectionVars false
namespace Go.Xp
open Go.Proofs

end Go.Xp

/- Layer 15 (rebuild): the built tree has exactly the added members. -/
set_option linter.unusedSimpArgs false
set_option linter.unusedVariables false
set_option linter.unusedSectionVars false
namespace Go.Xp
open Go.Proofs

theorem mem1_add {N : List Nod} {x : Mem} (h : Bok N) (e : berr N x = 0) (dv : Value) : mem1 (N ++ [bnod N x dv]) = mem1 N ++ [erm x] := by
  obtain ⟨a1, a2, a3, a4⟩ := h.add (dv := dv) e
  unfold mem1
  rw [List.length_append]
  show (List.range (N.length + 1)).map _ = _
  rw [List.range_succ, List.map_append, List.map_cons, List.map_nil]
  congr 1
  · exact List.map_congr_left (fun i hi => msp_app (List.mem_range.1 hi))
  · exact congrArg (fun z => [z]) a2
end Go.Xp

/- Layer 15 (rebuild): adding the first members of a valid tree. -/
set_option linter.unusedSimpArgs false
set_option linter.unusedVariables false
set_option linter.unusedSectionVars false
namespace Go.Xp
open Go.Proofs

/-- Nodes in canonical form. -/
def CanR (h : Heap) (v : Value) (N : List Nod) : Prop := ∃ L, Rows nodS h v L ∧ L.length = N.length ∧ L.map er = cno N
theorem CanR.ext {h h' : Heap} {v : Value} {N : List Nod} (x : CanR h v N) (y : Ext h h') : CanR h' v N := by
  obtain ⟨L, a, b⟩ := x; exact ⟨L, a.ext y, b⟩
theorem bl_NodesR {h0 h : Heap} {b : Nat} {N : List Nod} (hK : GlbK h) (hE : GlbE h) (B : BL h0 h b N) (hm : N.length ≤ 1000000000) :
    Cal Tryd.prog 14 #[.pointer (some ⟨b, 0, none⟩)] h (fun v h' => CanR h' v N ∧ Ext h h') :=
  (bl_Nodes hK hE B hm).mono fun v h' ⟨L, a, b, x⟩ => ⟨⟨L, a, b⟩, x⟩
theorem ref13_SameC {h : Heap} {u v : Value} {A B : List Nod} (hu : CanR h u A) (hv : CanR h v B) (hm : A.length ≤ 1000000000) (e : cno A = cno B) :
    Cal Tryd.prog 20 #[u, v] h (fun w h' => w = .bool true ∧ Ext h h') := by
  obtain ⟨L1, a1, a2, a3⟩ := hu
  obtain ⟨L2, b1, b2, b3⟩ := hv
  exact (ref13_Same h u L1 a1 v L2 b1 (by omega)).mono fun w h' q => ⟨by rw [q.1, lsame_er.2 (a3.trans (e.trans b3.symm))], q.2⟩
end Go.Xp
