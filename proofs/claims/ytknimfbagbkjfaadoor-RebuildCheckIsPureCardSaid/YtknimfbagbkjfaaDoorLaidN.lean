/- What a row's inputs and variables read as: tables, errors, slices of structs. -/
import Derived.Test.YtknimfbagbkjfaaDoorOpen
import Derived.Test.YtknimfbagbkjfaaDoorNum
import Derived.Lib.LaidTab
import Derived.LaidLaws
set_option linter.unusedSimpArgs false
set_option linter.unusedVariables false
set_option linter.unusedSectionVars false
namespace Go.Xp
open Go.WideShapes Go.RowKit
section
variable {H : Type} {enc : TypeId × Value → H} {P : Program} {w : World} {base : Nat} {sp : Nat → Bool} {held : Bool} {R f : Nat} {u : Value} {l : DataW H}
theorem ifc_of_laid {fuel g : Nat} {name nm : String} {t : TypeId} {ms : Array (String × TypeId)} {d : DataW H} {p : List MemPlace} {cs : Array Value} (hg : P.globalNamed name = some g) (ht : P.underlying t = some (.interface ms))
    (hv : w.var? P name = some cs) (hd : DataW.trod enc P w base sp false fuel t cs.toList = some (.iface nm d, p)) : g < w.heap.size ∧ IfcH w.heap g := by
  obtain ⟨_, te, pe, h1, _⟩ := iface_of_trod ht hd
  unfold World.var? at hv
  rw [hg] at hv
  simp only [Option.bind_some] at hv
  split at hv
  · rename_i cs' T z hh
    simp only [Option.some.injEq] at hv
    subst hv
    refine ⟨(Array.getElem?_eq_some_iff.1 hh).1, te, pe, ?_⟩
    unfold cellAt
    rw [hh]
    show cs'[0]? = _
    rw [← Array.getElem?_toList, h1]; rfl
  · cases hv
/-- A slice of data of one kind. -/
theorem rd_sch {β : Type} {S : Sch β} {es : List CSh} (hz : S.z = es.length) (good : β → Prop) (hes : 0 < es.length) (h : CRead w R (f + 1) (.sl es) u l)
    (one : ∀ r : List Value, r.length = es.length → (∀ (j : Nat) (c : CSh), es[j]? = some c → ∃ (u : Value) (l : DataW H), r[j]? = some u ∧ CRead w R f c u l) → ∃ x : β, r = S.cells x ∧ S.ok w.heap x ∧ good x) :
    ∃ b : List β, Rows S w.heap u b ∧ b.length ≤ R ∧ ∀ x ∈ b, good x := by
  obtain ⟨rows, ds, h1, h2, _, _, h3⟩ := rd_rows h hes
  have key : ∀ rs : List (List Value), (∀ r ∈ rs, ∃ x : β, r = S.cells x ∧ S.ok w.heap x ∧ good x) → ∃ b : List β, b.length = rs.length ∧ rs.flatten = b.flatMap S.cells ∧ ∀ x ∈ b, S.ok w.heap x ∧ good x := by
    intro rs
    induction rs with
    | nil => intro _; exact ⟨[], rfl, rfl, fun x hx => by cases hx⟩
    | cons r rs ih =>
      intro hr
      obtain ⟨b, k1, k2, k3⟩ := ih (fun r' hr' => hr r' (by simp [hr']))
      obtain ⟨x, rfl, hx⟩ := hr r (by simp)
      refine ⟨x :: b, by simp [k1], by rw [List.flatten_cons, k2, List.flatMap_cons], fun y hy => ?_⟩
      rcases List.mem_cons.1 hy with rfl | hy
      · exact hx
      · exact k3 y hy
  obtain ⟨b, k1, k2, k3⟩ := key rows (fun r hr => by
    obtain ⟨i, hi, rfl⟩ := List.getElem_of_mem hr
    obtain ⟨d, m0, m1, m2⟩ := h3 i _ (List.getElem?_eq_getElem hi)
    exact one _ m1 (fun j c hj => by obtain ⟨u, l, n1, n2, n3⟩ := m2 j c hj; exact ⟨u, l, n1, n3⟩))
  refine ⟨b, ⟨?_, fun x hx => (k3 x hx).1⟩, by omega, fun x hx => (k3 x hx).2⟩
  rw [← k2, hz, k1]; exact h1
end
end Go.Xp

/- Inputs that are slices of nodes. -/
set_option linter.unusedSimpArgs false
set_option linter.unusedVariables false
set_option linter.unusedSectionVars false
namespace Go.Xp
open Go.WideShapes Go.RowKit
section
variable {H : Type} {enc : TypeId × Value → H} {P : Program} {w : World} {base : Nat} {sp : Nat → Bool} {held : Bool} {R f : Nat} {u : Value} {l : DataW H}
theorem rd_mems (h : CRead w R (f + 3) (.sl [.int .i64, .str, .int .i64, .str, .int .i64, .sl [.int .u8]]) u l) : ∃ b : List Mem, Rows memS w.heap u b ∧ b.length ≤ R ∧ ∀ x ∈ b, x.path.length ≤ R ∧ x.target.length ≤ R ∧ x.data.length ≤ R ∧ -9223372036854775808 ≤ x.size ∧ x.size ≤ 9223372036854775807 :=
  rd_sch (S := memS) rfl (fun x => x.path.length ≤ R ∧ x.target.length ≤ R ∧ x.data.length ≤ R ∧ -9223372036854775808 ≤ x.size ∧ x.size ≤ 9223372036854775807) (by decide) h (fun r hr hc => by
    obtain ⟨u0, l0, a1, a2⟩ := hc 0 _ rfl
    obtain ⟨u1, l1, b1, b2⟩ := hc 1 _ rfl
    obtain ⟨u2, l2, c1, c2⟩ := hc 2 _ rfl
    obtain ⟨u3, l3, d1, d2⟩ := hc 3 _ rfl
    obtain ⟨u4, l4, e1, e2⟩ := hc 4 _ rfl
    obtain ⟨u5, l5, f1, f2⟩ := hc 5 _ rfl
    obtain ⟨z0, rfl, _, _⟩ := rd_int a2
    obtain ⟨s1, rfl, _, b3⟩ := rd_str b2
    obtain ⟨z2, rfl, _, _⟩ := rd_int c2
    obtain ⟨s3, rfl, _, d3⟩ := rd_str d2
    obtain ⟨z4, rfl, _, w4⟩ := rd_int e2
    obtain ⟨y5, f3, f4⟩ := rd_bytes f2
    match r, hr, a1, b1, c1, d1, e1, f1 with
    | [x0, x1, x2, x3, x4, x5], _, a1, b1, c1, d1, e1, f1 =>
      simp at a1 b1 c1 d1 e1 f1
      exact ⟨⟨z0, s1, z2, s3, z4, u5, y5⟩, by rw [a1, b1, c1, d1, e1, f1]; rfl, f3, b3, d3, f4, (wf_i64 w4).1, (wf_i64 w4).2⟩)
end
section
end
end Go.Xp
