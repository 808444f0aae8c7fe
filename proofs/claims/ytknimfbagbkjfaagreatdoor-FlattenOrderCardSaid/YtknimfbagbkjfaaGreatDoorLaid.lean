/- What a row's inputs and variables read as: tables, errors, slices of structs. -/
import Derived.Test.YtknimfbagbkjfaaGreatDoorOpen
import Derived.Test.YtknimfbagbkjfaaGreatDoorNum
import Derived.Lib.LaidTab
import Derived.LaidLaws
set_option linter.unusedSimpArgs false
set_option linter.unusedVariables false
set_option linter.unusedSectionVars false
namespace Go.Xp
open Go.WideShapes Go.RowKit
section
variable {H : Type} {enc : TypeId × Value → H} {P : Program} {w : World} {base : Nat} {sp : Nat → Bool} {held : Bool} {R f : Nat} {u : Value} {l : DataW H}
theorem tab_of_laid {fuel g n : Nat} {name : String} {t e : TypeId} {k : IntKind} {zs : List Int} {d : DataW H} {p : List MemPlace} {cs : Array Value} (hg : P.globalNamed name = some g) (ht : P.underlying t = some (.array n e)) (he : P.underlying e = some (.int k)) (hce : P.cellsOf e = 1) (hct : P.cellsOf t = n)
    (hv : w.var? P name = some cs) (hd : DataW.trod enc P w base sp held fuel t cs.toList = some (d, p)) (hdt : d = Lib.tabData k zs) : TabH w.heap g (zs.map fun z => Value.int k z).toArray := by
  subst hdt
  have h1 := Lib.cells_of_tab ht he hce hct hd
  unfold World.var? at hv
  rw [hg] at hv
  simp only [Option.bind_some] at hv
  split at hv
  · rename_i cs' T z hh
    simp only [Option.some.injEq] at hv
    subst hv
    exact ⟨T, z, by rw [hh, ← h1]⟩
  · cases hv
theorem ifc_of_laid {fuel g : Nat} {name nm : String} {t : TypeId} {ms : Array (String × TypeId)} {d : DataW H} {p : List MemPlace} {cs : Array Value} (hg : P.globalNamed name = some g) (ht : P.underlying t = some (.interface ms))
    (hv : w.var? P name = some cs) (hd : DataW.trod enc P w base sp false fuel t cs.toList = some (.iface nm d, p)) : g < w.heap.size ∧ IfcH w.heap g := by
  obtain ⟨_, te, pe, h1, _⟩ := iface_of_trod ht hd
  unfold World.var? at hv
  rw [hg] at hv
  simp only [Option.bind_some] at hv
  split at hv
  · rename_i cs' T z hh
    simp only [Option.some.injEq] at hv
    subst hv
    refine ⟨(Array.getElem?_eq_some_iff.1 hh).1, te, pe, ?_⟩
    unfold cellAt
    rw [hh]
    show cs'[0]? = _
    rw [← Array.getElem?_toList, h1]; rfl
  · cases hv
/-- A slice of data of one kind. -/
theorem rd_sch {β : Type} {S : Sch β} {es : List CSh} (hz : S.z = es.length) (good : β → Prop) (hes : 0 < es.length) (h : CRead w R (f + 1) (.sl es) u l)
    (one : ∀ r : List Value, r.length = es.length → (∀ (j : Nat) (c : CSh), es[j]? = some c → ∃ (u : Value) (l : DataW H), r[j]? = some u ∧ CRead w R f c u l) → ∃ x : β, r = S.cells x ∧ S.ok w.heap x ∧ good x) :
    ∃ b : List β, Rows S w.heap u b ∧ b.length ≤ R ∧ ∀ x ∈ b, good x := by
  obtain ⟨rows, ds, h1, h2, _, _, h3⟩ := rd_rows h hes
  have key : ∀ rs : List (List Value), (∀ r ∈ rs, ∃ x : β, r = S.cells x ∧ S.ok w.heap x ∧ good x) → ∃ b : List β, b.length = rs.length ∧ rs.flatten = b.flatMap S.cells ∧ ∀ x ∈ b, S.ok w.heap x ∧ good x := by
    intro rs
    induction rs with
    | nil => intro _; exact ⟨[], rfl, rfl, fun x hx => by cases hx⟩
    | cons r rs ih =>
      intro hr
      obtain ⟨b, k1, k2, k3⟩ := ih (fun r' hr' => hr r' (by simp [hr']))
      obtain ⟨x, rfl, hx⟩ := hr r (by simp)
      refine ⟨x :: b, by simp [k1], by rw [List.flatten_cons, k2, List.flatMap_cons], fun y hy => ?_⟩
      rcases List.mem_cons.1 hy with rfl | hy
      · exact hx
      · exact k3 y hy
  obtain ⟨b, k1, k2, k3⟩ := key rows (fun r hr => by
    obtain ⟨i, hi, rfl⟩ := List.getElem_of_mem hr
    obtain ⟨d, m0, m1, m2⟩ := h3 i _ (List.getElem?_eq_getElem hi)
    exact one _ m1 (fun j c hj => by obtain ⟨u, l, n1, n2, n3⟩ := m2 j c hj; exact ⟨u, l, n1, n3⟩))
  refine ⟨b, ⟨?_, fun x hx => (k3 x hx).1⟩, by omega, fun x hx => (k3 x hx).2⟩
  rw [← k2, hz, k1]; exact h1
end
end Go.Xp
