/- Inputs that are slices of nodes. -/
import Derived.Test.YtknimfbagbkjfaaGreatDoorLaid
set_option linter.unusedSimpArgs false
set_option linter.unusedVariables false
set_option linter.unusedSectionVars false
namespace Go.Xp
open Go.WideShapes Go.RowKit
section
variable {H : Type} {enc : TypeId × Value → H} {P : Program} {w : World} {base : Nat} {sp : Nat → Bool} {held : Bool} {R f : Nat} {u : Value} {l : DataW H}
theorem rd_nodes (h : CRead w R (f + 3) (.sl [.int .i64, .str, .int .i64, .str, .sl [.int .u8], .int .i64]) u l) : ∃ b : List Nod, Rows nodS w.heap u b ∧ b.length ≤ R ∧ ∀ x ∈ b, x.path.length ≤ R ∧ x.target.length ≤ R ∧ x.data.length ≤ R :=
  rd_sch (S := nodS) rfl (fun x => x.path.length ≤ R ∧ x.target.length ≤ R ∧ x.data.length ≤ R) (by decide) h (fun r hr hc => by
    obtain ⟨u0, l0, a1, a2⟩ := hc 0 _ rfl
    obtain ⟨u1, l1, b1, b2⟩ := hc 1 _ rfl
    obtain ⟨u2, l2, c1, c2⟩ := hc 2 _ rfl
    obtain ⟨u3, l3, d1, d2⟩ := hc 3 _ rfl
    obtain ⟨u4, l4, e1, e2⟩ := hc 4 _ rfl
    obtain ⟨u5, l5, f1, f2⟩ := hc 5 _ rfl
    obtain ⟨z0, rfl, _, _⟩ := rd_int a2
    obtain ⟨s1, rfl, _, b3⟩ := rd_str b2
    obtain ⟨z2, rfl, _, _⟩ := rd_int c2
    obtain ⟨s3, rfl, _, d3⟩ := rd_str d2
    obtain ⟨y4, e3, e4⟩ := rd_bytes e2
    obtain ⟨z5, rfl, _, _⟩ := rd_int f2
    match r, hr, a1, b1, c1, d1, e1, f1 with
    | [x0, x1, x2, x3, x4, x5], _, a1, b1, c1, d1, e1, f1 =>
      simp at a1 b1 c1 d1 e1 f1
      exact ⟨⟨z0, s1, z2, s3, u4, y4, z5⟩, by rw [a1, b1, c1, d1, e1, f1]; rfl, e3, b3, d3, e4⟩)
end
section
end
end Go.Xp
